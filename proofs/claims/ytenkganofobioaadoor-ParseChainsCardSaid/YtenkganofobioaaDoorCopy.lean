/- copy(dst[lo:hi], src): dst a row of words of the call's own, src a row of words that is read. -/
import Derived.Test.YtenkganofobioaaDoorMine
import Derived.Laws.IdiomCopy
namespace Go.Proofs.YtenkganofobioaaDoor.Copy
open Go.RowKit Go.Proofs.YtenkganofobioaaDoorW.PrintWords Go.Proofs.YtenkganofobioaaDoorW.PrintLast Go.Proofs.YtenkganofobioaaDoorW.PrintMore
set_option linter.unusedVariables false
set_option linter.unusedSimpArgs false
/-- ys laid over xs from place o on. -/
def over : List Int → Nat → List Int → List Int
  | xs, _, [] => xs
  | xs, o, y :: r => over (xs.set o y) (o + 1) r
theorem over_length : ∀ (ys : List Int) (xs : List Int) (o : Nat), (over xs o ys).length = xs.length
  | [], _, _ => rfl
  | y :: r, xs, o => by rw [over, over_length r, List.length_set]
theorem over_out : ∀ (ys : List Int) (xs : List Int) (o i : Nat), i < o ∨ o + ys.length ≤ i → (over xs o ys)[i]? = xs[i]?
  | [], _, _, _, _ => rfl
  | y :: r, xs, o, i, h => by
    rw [over, over_out r _ _ _ (by simp only [List.length_cons] at h; omega), List.getElem?_set_ne (by simp only [List.length_cons] at h; omega)]
theorem over_in : ∀ (ys : List Int) (xs : List Int) (o j : Nat), j < ys.length → o + j < xs.length → (over xs o ys)[o + j]? = ys[j]?
  | y :: r, xs, o, 0, h, h2 => by
    rw [over, over_out r _ _ _ (by omega), Nat.add_zero, List.getElem?_set_self (by omega)]; rfl
  | y :: r, xs, o, j + 1, h, h2 => by
    rw [over, show o + (j + 1) = o + 1 + j by omega, over_in r _ _ _ (by simp only [List.length_cons] at h; omega) (by rw [List.length_set]; omega)]
    rfl
/-- Only rows of words (type 2) from base on were turned. -/
structure Cops (W W' : World) (base : Nat) : Prop where
  below : ∀ {w : World} {B : Nat}, Below B w W → B ≤ base → Below B w W'
  blk : ∀ {g : Nat} {t : TypeId} {cs : Array Value}, W.heap[g]? = some (.cells cs t (0, 0)) → t ≠ 2 → W'.heap[g]? = some (.cells cs t (0, 0))
  size : W'.heap.size = W.heap.size
theorem Cops.refl (W : World) (base : Nat) : Cops W W base := ⟨fun h _ => h, fun h _ => h, rfl⟩
theorem cops_cells (g base : Nat) (hg : base ≤ g) : ∀ (vs : List Value) (o : Nat) (W : World) (cs : Array Value), W.heap[g]? = some (.cells cs 2 (0, 0)) → Cops W (W.setCells g o vs) base
  | [], _, W, _, _ => Cops.refl W base
  | v :: r, o, W, cs, h => by
    have h1 : (W.setCell ⟨g, o, none⟩ v).heap[g]? = some (.cells (cs.setIfInBounds o v) 2 (0, 0)) := blk_put h o v rfl
    have ih := cops_cells g base hg r (o + 1) _ _ h1
    refine ⟨fun hb hB => ih.below (hb.setCell (Nat.le_trans hB hg) _) hB, fun {g' t cs'} hh ht => ih.blk ?_ ht, by rw [World.setCells, ih.size]; simp [World.setCell]⟩
    refine blk_far hh (fun e => ?_) v
    have e' : g' = g := e
    subst e'
    rw [h] at hh
    injection hh with hh
    injection hh with _ hh
    exact ht hh.symm
theorem heap_setCells (g : Nat) : ∀ (vs : List Value) (o : Nat) (W : World) (k : Nat), k ≠ g → (W.setCells g o vs).heap[k]? = W.heap[k]?
  | [], _, _, _, _ => rfl
  | v :: r, o, W, k, h => by
    rw [World.setCells, heap_setCells g r _ _ k h]
    exact Below.heap_setCell W ⟨g, o, none⟩ v k h
theorem own_cells {base g n cap : Nat} : ∀ (ys : List Int) (o : Nat) (W : World) (xs : List Int), W.ownsRow base 2 1 (.slice (some ⟨g, 0, none⟩) n cap) n (nums .i64 xs) → (W.setCells g o (nums .i64 ys)).ownsRow base 2 1 (.slice (some ⟨g, 0, none⟩) n cap) n (nums .i64 (over xs o ys))
  | [], _, _, _, h => h
  | y :: r, o, W, xs, h => by
    have h1 := (own_store h (o : Int) y).1
    rw [Int.toNat_natCast] at h1
    exact own_cells r (o + 1) _ _ h1
theorem run_own_copy {P : Program} {dT : TypeId} (hu : P.underlying dT = some (.slice 2)) (hs : (P.info? 2).map (·.size) = some 1) {W : World} {base : Nat} {ok : Nat → Prop} {Ao : Option Addr} {n co : Nat} {xs : List Int}
    (HO : (Kd.int .i64).R 2 W base ok (.slice Ao n co) xs) {A2 : Option Addr} {n2 c2 : Nat} {ys : List Int} (HC : (Kd.int .i64).C W A2 n2 ys) (lo hi : Nat) (hlo : lo ≤ hi) (hhi : hi ≤ xs.length) (A1 : Option Addr) (hA1 : A1 = if co = lo then Ao else Ao.map (·.add (lo * 1))) (n1 c1 : Nat) (hn1 : n1 = hi - lo) :
    ∃ W', (∀ ty, (Builtin.copy_ #[dT, dT] ty #[.slice A1 n1 c1, .slice A2 n2 c2]).run P W = .ok (goInt ((min n2 n1 : Nat) : Int)) W') ∧
      (Kd.int .i64).R 2 W' base ok (.slice Ao n co) (over xs lo (ys.take (hi - lo))) ∧ Cops W W' base ∧ ∀ k, some k ≠ (Value.slice Ao n co).ownBlock → W'.heap[k]? = W.heap[k]? := by
  subst hn1
  have hn : n = xs.length := (Kd.R_reads' HO).1
  have hco : n ≤ co := (Kd.R_reads' HO).2.1
  have hys : ys.length = n2 := HC.1
  by_cases h0 : Nat.min n2 (hi - lo) = 0
  · refine ⟨W, fun ty => ?_, ?_, Cops.refl W base, fun _ _ => rfl⟩
    · have h0' : min n2 (hi - lo) = 0 := h0
      rw [h0']
      exact run_copy_none W dT dT ty 2 A1 A2 (hi - lo) c1 n2 c2 hu hs h0
    · have h0' : min n2 (hi - lo) = 0 := h0
      have he : ys.take (hi - lo) = [] := by
        rcases Nat.le_total n2 (hi - lo) with h | h
        · have : ys = [] := List.length_eq_zero_iff.mp (by omega)
          rw [this, List.take_nil]
        · have : hi - lo = 0 := by omega
          rw [this, List.take_zero]
      rw [he]
      exact HO
  · have h0' : ¬ min n2 (hi - lo) = 0 := h0
    have ho := Kd.own_of_R (enc := Value.int .i64) (h1 := fun _ => rfl) HO
    have ho' : W.ownsRow base 2 1 (.slice Ao n co) n (nums .i64 xs) := by rw [hn] at ho ⊢; exact ho
    obtain ⟨g, cap, he, hg, hcell⟩ := ho'.form (by omega)
    injection he with he1 he2 he3
    subst he1
    have hA : A1 = some ⟨g, lo, none⟩ := by
      rw [hA1, if_neg (by omega)]
      rw [Option.map_some, add_plain, Nat.mul_one]
    obtain ⟨ad, rfl, hc⟩ := (Kd.reads_of_C (enc := Value.int .i64) (d := (0 : Int)) (h1 := fun _ => rfl) HC).2.2 (by omega)
    have hl : (ys.take (hi - lo)).length = min n2 (hi - lo) := by rw [List.length_take, hys]; exact Nat.min_comm _ _
    have hL : (nums .i64 (ys.take (hi - lo))).length = min n2 (hi - lo) := by rw [nums_length, hl]
    have hh : ∃ cs, W.heap[g]? = some (.cells cs 2 (0, 0)) := own_typed ho' g (by simp [Value.ownBlock])
    obtain ⟨cs, hh⟩ := hh
    refine ⟨W.setCells g lo (nums .i64 (ys.take (hi - lo))), fun ty => ?_, ?_, cops_cells g base hg _ _ W cs hh, fun k hk => heap_setCells g _ _ W k (fun e => hk (by rw [e]; rfl))⟩
    · rw [hA, ← hL]
      refine run_copy_cells W dT dT ty 2 g lo (hi - lo) c1 ad n2 c2 _ hu hs hL (fun j v hj => ?_) (fun j hj => ?_) (fun j hj => ?_) (fun v hv => ?_)
      · have hj' : j < min n2 (hi - lo) := by rw [← hL]; exact (List.getElem?_eq_some_iff.1 hj).1
        have h3 := hc j (by omega)
        rw [h3]
        simp only [nums, List.getElem?_map, List.getElem?_take] at hj
        rw [if_pos (by omega), List.getElem?_eq_getElem (by omega)] at hj
        simp only [Option.map_some] at hj
        rw [← hj, List.getD_eq_getElem?_getD, List.getElem?_eq_getElem (by omega)]
        rfl
      · rw [hL] at hj
        have h4 := (own_at ho' ((lo + j : Nat) : Int) (by omega) (by omega)).1
        rw [Int.toNat_natCast] at h4
        rw [h4]; rfl
      · rw [hL] at hj
        have h4 := (own_at ho' ((lo + j : Nat) : Int) (by omega) (by omega)).2
        rw [Int.toNat_natCast] at h4
        exact h4
      · obtain ⟨z, _, rfl⟩ := List.mem_map.1 hv
        rfl
    · have h5 := own_cells (ys.take (hi - lo)) lo W xs ho'
      refine Kd.R_of_own (enc := Value.int .i64) (h1 := fun _ => rfl) ?_ HO.1
      rw [over_length, ← hn]
      exact h5
/-- The whole row. -/
theorem run_own_copy0 {P : Program} {dT : TypeId} (hu : P.underlying dT = some (.slice 2)) (hs : (P.info? 2).map (·.size) = some 1) {W : World} {base : Nat} {ok : Nat → Prop} {Ao : Option Addr} {n co : Nat} {xs : List Int}
    (HO : (Kd.int .i64).R 2 W base ok (.slice Ao n co) xs) {A2 : Option Addr} {n2 c2 : Nat} {ys : List Int} (HC : (Kd.int .i64).C W A2 n2 ys) :
    ∃ W', (∀ ty, (Builtin.copy_ #[dT, dT] ty #[.slice Ao n co, .slice A2 n2 c2]).run P W = .ok (goInt ((min n2 n : Nat) : Int)) W') ∧
      (Kd.int .i64).R 2 W' base ok (.slice Ao n co) (over xs 0 (ys.take xs.length)) ∧ Cops W W' base ∧ ∀ k, some k ≠ (Value.slice Ao n co).ownBlock → W'.heap[k]? = W.heap[k]? := by
  have hn : n = xs.length := (Kd.R_reads' HO).1
  refine run_own_copy (lo := 0) (hi := xs.length) (c1 := co) hu hs HO HC (Nat.zero_le _) (Nat.le_refl _) Ao ?_ n hn
  by_cases h0 : co = 0
  · rw [if_pos h0]
  · rw [if_neg h0]
    rcases (Kd.own_of_R (enc := Value.int .i64) (h1 := fun _ => rfl) HO).2 with ⟨he, _⟩ | ⟨g, cap, cur, he, _⟩
    · injection he with he; subst he; rfl
    · injection he with he; subst he; rfl
/-- An operation that yields a value, in a plain region. -/
theorem valueL_ {P : Program} {ops : Array Oper} {rest : List Oper} {oi : Oper} {a : Act} {Q : Exit → Act → World → Prop} {w w1 : World} {v : Value} (N : Option Tmp) (hd : oi.dst = N) (hg : oi.guard = none) (hrun : (execOp a.eval oi).run P w = .ok (.value v) w1)
    (h : wpList P ops Q rest (a.put N v) w1) : wpList P ops Q (oi :: rest) a w := by
  refine wpList_plain hg fun K hK => ?_
  unfold Oper.wp
  rw [hrun]
  subst hd
  exact hK _ _ h
end Go.Proofs.YtenkganofobioaaDoor.Copy
