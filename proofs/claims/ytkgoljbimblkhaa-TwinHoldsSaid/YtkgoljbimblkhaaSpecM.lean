/- The machine that runs ahead: what stands in memory; Guesses, commit, back. -/
import Derived.Test.YtkgoljbimblkhaaSpecMem
namespace Go.Proofs.Ytkgoljbimblkhaa.B
open Go.RowKit Go.Proofs.Ytkgoljbimblkhaa.Mine Go.Proofs.Ytkgoljbimblkhaa.Sep Go.Proofs.YtkgoljbimblkhaaW.PrintWords Go.Proofs.YtkgoljbimblkhaaW.PrintLast Go.Proofs.YtkgoljbimblkhaaW.PrintMore
set_option linter.unusedVariables false
set_option linter.unusedSimpArgs false

structure SM where
  s : St
  mem : List Int
  buf : List (Int × Int)
  saved : Option (St × List (Int × Int))
  n : Nat
  left : Int
/-- Where the machine goes back to. -/
def SVD (vs : Value) : Option (St × List (Int × Int)) → Nat → Chunk
  | none, n => two (pur (n = 0)) (que 94 70 vs [])
  | some p, n => ex fun (q : {q : Value × List (List Value) // q.2.length + 1 = n ∧ p.1.regs.length = 64}) => two (que 94 70 vs ((stL p.1 ++ [q.1.1]) :: q.1.2)) (BQ q.1.1 p.2)
section
variable {g : Nat} {A : Option Addr} {n c : Nat} {vc vt : Value} {win : Int} {W0 w : World} {L : List Chunk}
def mch (g : Nat) (A : Option Addr) (n c : Nat) (vc vt : Value) (win : Int) (X : SM) : Chunk :=
  ex fun (p : {p : Value × Value // X.s.regs.length = 64}) => two (MB g X.s vc (.slice A n c) p.1.1 p.1.2 vt win X.left) (two (BQ p.1.1 X.buf) (two (row IW 2 (.slice A n c) X.mem) (SVD p.1.2 X.saved X.n)))
theorem mOpen {X : SM} (HS : Sat W0 w (mch g A n c vc vt win X :: L)) : ∃ vb vs, X.s.regs.length = 64 ∧ Sat W0 w (MB g X.s vc (.slice A n c) vb vs vt win X.left :: BQ vb X.buf :: row IW 2 (.slice A n c) X.mem :: SVD vs X.saved X.n :: L) := by
  obtain ⟨⟨⟨vb, vs⟩, hs⟩, h⟩ := HS.openEx
  have h1 := Sat.split (Sat.swap (Sat.split h))
  have h2 := Sat.split (h1.swap)
  exact ⟨vb, vs, hs, ((h2.front 2 rfl).front 3 rfl)⟩
theorem mClose {X : SM} {vb vs : Value} (hs : X.s.regs.length = 64) (HS : Sat W0 w (MB g X.s vc (.slice A n c) vb vs vt win X.left :: BQ vb X.buf :: row IW 2 (.slice A n c) X.mem :: SVD vs X.saved X.n :: L)) : Sat W0 w (mch g A n c vc vt win X :: L) := by
  have h : Sat W0 w (row IW 2 (.slice A n c) X.mem :: SVD vs X.saved X.n :: BQ vb X.buf :: MB g X.s vc (.slice A n c) vb vs vt win X.left :: L) := by
    exact Sat.reindex HS (fun j => match j with | 0 => 2 | 1 => 3 | 2 => 1 | 3 => 0 | j + 4 => j + 4) (fun a b h => by
      match a, b with
      | 0, 0 | 1, 1 | 2, 2 | 3, 3 => rfl
      | 0, 1 | 0, 2 | 0, 3 | 1, 0 | 1, 2 | 1, 3 | 2, 0 | 2, 1 | 2, 3 | 3, 0 | 3, 1 | 3, 2 => simp at h
      | 0, j + 4 | 1, j + 4 | 2, j + 4 | 3, j + 4 => simp at h
      | j + 4, 0 | j + 4, 1 | j + 4, 2 | j + 4, 3 => simp at h
      | a + 4, b + 4 => simpa using h) (fun j cj hj => by
      match j with
      | 0 | 1 | 2 | 3 => simpa using hj
      | j + 4 => simpa using hj)
  have h2 := (Sat.join (Sat.swap (Sat.join h)))
  exact Sat.closeEx ⟨⟨vb, vs⟩, hs⟩ (Sat.join h2.swap)
theorem svdSlice {vs : Value} {sv : Option (St × List (Int × Int))} {m : Nat} (HS : Sat W0 w L) (i : Nat) (hi : L[i]? = some (SVD vs sv m)) : (∃ A' c', vs = .slice A' m c' ∧ m ≤ c') ∧ (sv.isSome = decide (0 < m)) := by
  have HS := HS.front i hi
  cases sv with
  | none =>
    have HS := Sat.split HS
    have h0 := HS.fact 0 rfl
    subst h0
    obtain ⟨A', c', h, hc⟩ := HS.queSlice 1 rfl
    exact ⟨⟨A', c', h, hc⟩, rfl⟩
  | some p =>
    obtain ⟨⟨q, hq, _⟩, HS⟩ := Sat.openEx HS
    obtain ⟨A', c', h, hc⟩ := (Sat.split HS).queSlice 0 rfl
    rw [List.length_cons, hq] at h hc
    exact ⟨⟨A', c', h, hc⟩, by rw [decide_eq_true (show 0 < m by omega)]; rfl⟩

set_option maxRecDepth 100000 in
set_option maxHeartbeats 2000000 in
theorem guesses_calls {X : SM} (hn : X.n ≤ 1000000) (HS : Sat W0 w (mch g A n c vc vt win X :: L)) :
    Calls Try.prog 28 #[.pointer (some ⟨g, 0, none⟩)] w fun e w' => e = .returned (.bool X.saved.isSome) ∧ Sat W0 w' (mch g A n c vc vt win X :: L) := by
  have HM := Aside0.mk HS
  obtain ⟨vb, vs, hs, HS⟩ := mOpen HS
  obtain ⟨⟨As, cs, rfl, hcs⟩, hsv⟩ := svdSlice HS 3 rfl
  have c73 : w.cell? ⟨g, 72, none⟩ = some (.slice As X.n cs) := mcellT hs HS 0 rfl 3
  rw [hsv]
  clear hsv
  go_enter Try.func28, Try.ntmps28
  go_wp2
  go_ret
  exact ⟨rfl, HM.out⟩

/-- The oldest words that wait are put into memory, but for so many. -/
def cmt (keep : Nat) : List Int → List (Int × Int) → List Int × List (Int × Int)
  | m, [] => (m, [])
  | m, x :: r => if keep < r.length + 1 then cmt keep (wWr m x.1 x.2).1 r else (m, x :: r)
def commitF (keep : Nat) (X : SM) : SM := { X with mem := (cmt keep X.mem X.buf).1, buf := (cmt keep X.mem X.buf).2 }
theorem bq_head {x : Int × Int} {b : List (Int × Int)} (HS : Sat W0 w L) (i : Nat) {A' : Option Addr} {n' c' : Nat} (hi : L[i]? = some (BQ (.slice A' n' c') (x :: b))) :
    n' = b.length + 1 ∧ ∃ ad, A' = some ad ∧ w.cell? ad = some (.int .i64 x.1) ∧ w.cell? ⟨ad.block, ad.off + 1, none⟩ = some (.int .i64 x.2) := by
  obtain ⟨A2, c2, e, _⟩ := HS.queSlice i hi
  injection e with _ e _
  rw [List.length_map, List.length_cons] at e
  subst e
  obtain ⟨ad, y, rfl, hy, _, hc⟩ := HS.queGet i hi 0 (by omega) (by push_cast; omega)
  have e2 : wc x = y := by simpa using hy
  subst e2
  have x0 := hc 0 _ rfl
  have x1 := hc 1 _ rfl
  have z : (0 : Int).toNat * 2 + 0 = 0 := rfl
  have ha : ad.add 0 = ad := by unfold Addr.add; simp
  rw [z, ha] at x0
  rw [add_field _ _ 1 (by omega), show (0 : Int).toNat * 2 = 0 from rfl, ha] at x1
  exact ⟨rfl, ad, rfl, x0, x1⟩
theorem mb_set {s : St} {vm vb vs vm' vb' vs' : Value} {left left' : Int} (hs : s.regs.length = 64) (HS : Sat W0 w (MB g s vc vm vb vs vt win left :: L)) (j : Nat) (v : Value) (hv : [vc, vm, vb', vs', vt, Value.int .i64 win, .int .i64 left'] = [vc, vm, vb, vs, vt, Value.int .i64 win, .int .i64 left].set j v) :
    Sat W0 (w.setCell ⟨g, 69 + j, none⟩ v) (MB g s vc vm vb' vs' vt win left' :: L) := by
  have h := HS.store 0 rfl (69 + j) v
  have e : (mcL s vc vm vb vs vt win left).toArray.setIfInBounds (69 + j) v = (mcL s vc vm vb' vs' vt win left').toArray := by
    rw [mcL_setTail hs j v hv, List.setIfInBounds_toArray]
  unfold MB at h ⊢
  rw [← e]
  exact h

set_option maxRecDepth 100000 in
set_option maxHeartbeats 2000000 in
theorem commit_calls {X : SM} (keep : Nat) (hk : keep ≤ 1000000) (hb : X.buf.length ≤ 1000000) (HS : Sat W0 w (mch g A n c vc vt win X :: L)) :
    Calls Try.prog 31 #[.pointer (some ⟨g, 0, none⟩), .int .i64 (keep : Int)] w fun e w' => e = .returned (.tuple #[]) ∧ Sat W0 w' (mch g A n c vc vt win (commitF keep X) :: L) := by
  obtain ⟨vb, vs, hs, HS⟩ := mOpen HS
  obtain ⟨Ab, cq, rfl, hcq⟩ := HS.queSlice 1 rfl
  rw [List.length_map] at HS hcq
  obtain ⟨s, hse⟩ : ∃ s, s = X.s := ⟨_, rfl⟩
  rw [← hse] at HS hs
  have HSE := Aside0.mk hse
  clear hse
  go_enter Try.func31, Try.ntmps31
  go_wp2
  go_loopg [10] (X.buf.length + 1) (fun kq v10 w' => ∃ (A1 : Option Addr) (n1 c1 : Nat) (m : List Int) (b : List (Int × Int)), Aside0 (b.length = n1 ∧ n1 ≤ c1 ∧ n1 + 1 ≤ kq ∧ n1 ≤ 1000000 ∧ cmt keep m b = cmt keep X.mem X.buf) ∧ Aside0 (Sat W0 w' (MB g s vc (.slice A n c) (.slice A1 n1 c1) vs vt win X.left :: BQ (.slice A1 n1 c1) b :: row IW 2 (.slice A n c) m :: SVD vs X.saved X.n :: L)))
  case atStart => exact ⟨Ab, X.buf.length, cq, X.mem, X.buf, ⟨rfl, hcq, Nat.le_refl _, hb, rfl⟩, ⟨HS⟩⟩
  case round =>
    clear HS
    obtain ⟨A1, nb, c1, m, b, HJ, HS'⟩ := hrel
    have HS := HS'.out
    clear HS'
    have c71 : wr.cell? ⟨g, 71, none⟩ = some (.slice A1 nb c1) := mcellT hs HS 0 rfl 2
    by_cases h : keep < nb
    · have hkb : decide ((keep : Int) < (nb : Int)) = true := decide_eq_true (by omega)
      have hnb := HJ.out.1
      cases b with
      | nil => simp at hnb; omega
      | cons x b =>
        obtain ⟨hn, ad, rfl, x0, x1⟩ := bq_head HS 1 rfl
        subst hn
        have hcq1 := HJ.out.2.1
        have r1 := eq_true (show (0 : Int) < ((b.length + 1 : Nat) : Int) by omega)
        go_upto_region 1 with (fail)
        refine start_ (n := 19) (S := fun w' => ∃ L', Sat W0 w' (MB g s vc (.slice A n c) (.slice (some ad) (b.length + 1) c1) vs vt win X.left :: BQ (.slice (some ad) (b.length + 1) c1) (x :: b) :: L')) (ds := []) #[false, false, false, false, false, false, false, false, false, false, false, false, false, false, false, false, false, false, false] (by kernel_rfl) rfl rfl ⟨_, HS.drew⟩ (fun hHeld => ?_)
        replace HS := HS.drew
        generalize World.drew wr = w at HS hHeld ⊢
        refine pure_ (i := 0) (N := some 11) (v := ?_) (a' := ?_) #[true, false, false, false, false, false, false, false, false, false, false, false, false, false, false, false, false, false, false] rfl rfl (by kernel_rfl) (fun _ _ _ h => h) (Or.inl ⟨by rfl, ?_⟩) ?_ ?_
        rotate_left
        · intro w'
          go_simp
          with_reducible rfl
        rotate_left
        · (try simp only [Act.put, List.setIfInBounds_toArray, List.set_cons_zero, List.set_cons_succ, i64_w, i32_w])
          rfl
        refine pure_ (i := 1) (N := some 12) (v := ?_) (a' := ?_) #[true, true, false, false, false, false, false, false, false, false, false, false, false, false, false, false, false, false, false] rfl rfl (by kernel_rfl) (fun _ _ _ h => h) (Or.inl ⟨by rfl, ?_⟩) ?_ ?_
        rotate_left
        · intro w'
          go_simp
          with_reducible rfl
        rotate_left
        · (try simp only [Act.put, List.setIfInBounds_toArray, List.set_cons_zero, List.set_cons_succ, i64_w, i32_w])
          rfl
        refine pure_ (i := 2) (N := some 13) (v := ?_) (a' := ?_) #[true, true, true, false, false, false, false, false, false, false, false, false, false, false, false, false, false, false, false] rfl rfl (by kernel_rfl) (fun _ _ _ h => h) (Or.inl ⟨by rfl, ?_⟩) ?_ ?_
        rotate_left
        · intro w'
          go_simp
          with_reducible rfl
        rotate_left
        · (try simp only [Act.put, List.setIfInBounds_toArray, List.set_cons_zero, List.set_cons_succ, i64_w, i32_w])
          rfl
        refine take_ (i := 3) (N := some 14) (v := ?_) (a' := ?_) #[true, true, true, true, false, false, false, false, false, false, false, false, false, false, false, false, false, false, false] rfl rfl (by kernel_rfl) (fun _ _ _ h => h) (Or.inl ⟨by rfl, ?_⟩) hHeld ?_ ?_
        rotate_left
        · rintro w' hS
          obtain ⟨L', hS⟩ := hS
          have c71 : w'.cell? ⟨g, 71, none⟩ = some (.slice (some ad) (b.length + 1) c1) := mcellT hs hS 0 rfl 2
          have c70 : w'.cell? ⟨g, 70, none⟩ = some (.slice A n c) := mcellT hs hS 0 rfl 1
          obtain ⟨_, ad2, e2, x0, x1⟩ := bq_head hS 1 rfl
          cases e2
          go_simp
          with_reducible rfl
        rotate_left
        · (try simp only [Act.put, List.setIfInBounds_toArray, List.set_cons_zero, List.set_cons_succ, i64_w, i32_w])
          rfl
        refine pure_ (i := 4) (N := some 15) (v := ?_) (a' := ?_) #[true, true, true, true, true, false, false, false, false, false, false, false, false, false, false, false, false, false, false] rfl rfl (by kernel_rfl) (fun _ _ _ h => h) (Or.inl ⟨by rfl, ?_⟩) ?_ ?_
        rotate_left
        · intro w'
          go_simp
          with_reducible rfl
        rotate_left
        · (try simp only [Act.put, List.setIfInBounds_toArray, List.set_cons_zero, List.set_cons_succ, i64_w, i32_w])
          rfl
        refine pure_ (i := 5) (N := some 16) (v := ?_) (a' := ?_) #[true, true, true, true, true, true, false, false, false, false, false, false, false, false, false, false, false, false, false] rfl rfl (by kernel_rfl) (fun _ _ _ h => h) (Or.inl ⟨by rfl, ?_⟩) ?_ ?_
        rotate_left
        · intro w'
          go_simp
          with_reducible rfl
        rotate_left
        · (try simp only [Act.put, List.setIfInBounds_toArray, List.set_cons_zero, List.set_cons_succ, i64_w, i32_w])
          rfl
        refine pure_ (i := 6) (N := some 17) (v := ?_) (a' := ?_) #[true, true, true, true, true, true, true, false, false, false, false, false, false, false, false, false, false, false, false] rfl rfl (by kernel_rfl) (fun _ _ _ h => h) (Or.inl ⟨by rfl, ?_⟩) ?_ ?_
        rotate_left
        · intro w'
          go_simp
          with_reducible rfl
        rotate_left
        · (try simp only [Act.put, List.setIfInBounds_toArray, List.set_cons_zero, List.set_cons_succ, i64_w, i32_w])
          rfl
        refine take_ (i := 7) (N := some 18) (v := ?_) (a' := ?_) #[true, true, true, true, true, true, true, true, false, false, false, false, false, false, false, false, false, false, false] rfl rfl (by kernel_rfl) (fun _ _ _ h => h) (Or.inl ⟨by rfl, ?_⟩) hHeld ?_ ?_
        rotate_left
        · rintro w' hS
          obtain ⟨L', hS⟩ := hS
          have c71 : w'.cell? ⟨g, 71, none⟩ = some (.slice (some ad) (b.length + 1) c1) := mcellT hs hS 0 rfl 2
          have c70 : w'.cell? ⟨g, 70, none⟩ = some (.slice A n c) := mcellT hs hS 0 rfl 1
          obtain ⟨_, ad2, e2, x0, x1⟩ := bq_head hS 1 rfl
          cases e2
          go_simp
          with_reducible rfl
        rotate_left
        · (try simp only [Act.put, List.setIfInBounds_toArray, List.set_cons_zero, List.set_cons_succ, i64_w, i32_w])
          rfl
        refine pure_ (i := 8) (N := some 19) (v := ?_) (a' := ?_) #[true, true, true, true, true, true, true, true, true, false, false, false, false, false, false, false, false, false, false] rfl rfl (by kernel_rfl) (fun _ _ _ h => h) (Or.inl ⟨by rfl, ?_⟩) ?_ ?_
        rotate_left
        · intro w'
          go_simp
          with_reducible rfl
        rotate_left
        · (try simp only [Act.put, List.setIfInBounds_toArray, List.set_cons_zero, List.set_cons_succ, i64_w, i32_w])
          rfl
        refine pure_ (i := 9) (N := some 20) (v := ?_) (a' := ?_) #[true, true, true, true, true, true, true, true, true, true, false, false, false, false, false, false, false, false, false] rfl rfl (by kernel_rfl) (fun _ _ _ h => h) (Or.inl ⟨by rfl, ?_⟩) ?_ ?_
        rotate_left
        · intro w'
          go_simp
          with_reducible rfl
        rotate_left
        · (try simp only [Act.put, List.setIfInBounds_toArray, List.set_cons_zero, List.set_cons_succ, i64_w, i32_w])
          rfl
        refine take_ (i := 10) (N := some 21) (v := ?_) (a' := ?_) #[true, true, true, true, true, true, true, true, true, true, true, false, false, false, false, false, false, false, false] rfl rfl (by kernel_rfl) (fun _ _ _ h => h) (Or.inl ⟨by rfl, ?_⟩) hHeld ?_ ?_
        rotate_left
        · rintro w' hS
          obtain ⟨L', hS⟩ := hS
          have c71 : w'.cell? ⟨g, 71, none⟩ = some (.slice (some ad) (b.length + 1) c1) := mcellT hs hS 0 rfl 2
          have c70 : w'.cell? ⟨g, 70, none⟩ = some (.slice A n c) := mcellT hs hS 0 rfl 1
          obtain ⟨_, ad2, e2, x0, x1⟩ := bq_head hS 1 rfl
          cases e2
          go_simp
          with_reducible rfl
        rotate_left
        · (try simp only [Act.put, List.setIfInBounds_toArray, List.set_cons_zero, List.set_cons_succ, i64_w, i32_w])
          rfl
        refine pure_ (i := 11) (N := some 22) (v := ?_) (a' := ?_) #[true, true, true, true, true, true, true, true, true, true, true, true, false, false, false, false, false, false, false] rfl rfl (by kernel_rfl) (fun _ _ _ h => h) (Or.inl ⟨by rfl, ?_⟩) ?_ ?_
        rotate_left
        · intro w'
          go_simp
          with_reducible rfl
        rotate_left
        · (try simp only [Act.put, List.setIfInBounds_toArray, List.set_cons_zero, List.set_cons_succ, i64_w, i32_w])
          rfl
        refine pure_ (i := 12) (N := some 23) (v := ?_) (a' := ?_) #[true, true, true, true, true, true, true, true, true, true, true, true, true, false, false, false, false, false, false] rfl rfl (by kernel_rfl) (fun _ _ _ h => h) (Or.inl ⟨by rfl, ?_⟩) ?_ ?_
        rotate_left
        · intro w'
          go_simp
          with_reducible rfl
        rotate_left
        · (try simp only [Act.put, List.setIfInBounds_toArray, List.set_cons_zero, List.set_cons_succ, i64_w, i32_w])
          rfl
        refine pure_ (i := 13) (N := some 24) (v := ?_) (a' := ?_) #[true, true, true, true, true, true, true, true, true, true, true, true, true, true, false, false, false, false, false] rfl rfl (by kernel_rfl) (fun _ _ _ h => h) (Or.inl ⟨by rfl, ?_⟩) ?_ ?_
        rotate_left
        · intro w'
          go_simp
          with_reducible rfl
        rotate_left
        · (try simp only [Act.put, List.setIfInBounds_toArray, List.set_cons_zero, List.set_cons_succ, i64_w, i32_w])
          rfl
        refine take_ (i := 14) (N := some 25) (v := ?_) (a' := ?_) #[true, true, true, true, true, true, true, true, true, true, true, true, true, true, true, false, false, false, false] rfl rfl (by kernel_rfl) (fun _ _ _ h => h) (Or.inl ⟨by rfl, ?_⟩) hHeld ?_ ?_
        rotate_left
        · rintro w' hS
          obtain ⟨L', hS⟩ := hS
          have c71 : w'.cell? ⟨g, 71, none⟩ = some (.slice (some ad) (b.length + 1) c1) := mcellT hs hS 0 rfl 2
          have c70 : w'.cell? ⟨g, 70, none⟩ = some (.slice A n c) := mcellT hs hS 0 rfl 1
          obtain ⟨_, ad2, e2, x0, x1⟩ := bq_head hS 1 rfl
          cases e2
          go_simp
          with_reducible rfl
        rotate_left
        · (try simp only [Act.put, List.setIfInBounds_toArray, List.set_cons_zero, List.set_cons_succ, i64_w, i32_w])
          rfl
        refine pure_ (i := 15) (N := some 26) (v := ?_) (a' := ?_) #[true, true, true, true, true, true, true, true, true, true, true, true, true, true, true, true, false, false, false] rfl rfl (by kernel_rfl) (fun _ _ _ h => h) (Or.inl ⟨by rfl, ?_⟩) ?_ ?_
        rotate_left
        · intro w'
          go_simp
          with_reducible rfl
        rotate_left
        · (try simp only [Act.put, List.setIfInBounds_toArray, List.set_cons_zero, List.set_cons_succ, i64_w, i32_w])
          rfl
        refine pure_ (i := 16) (N := some 27) (v := ?_) (a' := ?_) #[true, true, true, true, true, true, true, true, true, true, true, true, true, true, true, true, true, false, false] rfl rfl (by kernel_rfl) (fun _ _ _ h => h) (Or.inl ⟨by rfl, ?_⟩) ?_ ?_
        rotate_left
        · intro w'
          go_simp
          with_reducible rfl
        rotate_left
        · (try simp only [Act.put, List.setIfInBounds_toArray, List.set_cons_zero, List.set_cons_succ, i64_w, i32_w])
          rfl
        refine take_ (i := 17) (N := some 28) (v := ?_) (a' := ?_) #[true, true, true, true, true, true, true, true, true, true, true, true, true, true, true, true, true, true, false] rfl rfl (by kernel_rfl) (fun _ _ _ h => h) (Or.inl ⟨by rfl, ?_⟩) hHeld ?_ ?_
        rotate_left
        · rintro w' hS
          obtain ⟨L', hS⟩ := hS
          have c71 : w'.cell? ⟨g, 71, none⟩ = some (.slice (some ad) (b.length + 1) c1) := mcellT hs hS 0 rfl 2
          have c70 : w'.cell? ⟨g, 70, none⟩ = some (.slice A n c) := mcellT hs hS 0 rfl 1
          obtain ⟨_, ad2, e2, x0, x1⟩ := bq_head hS 1 rfl
          cases e2
          go_simp
          with_reducible rfl
        rotate_left
        · (try simp only [Act.put, List.setIfInBounds_toArray, List.set_cons_zero, List.set_cons_succ, i64_w, i32_w])
          rfl
        refine one_ (i := 18) (N := some 29) #[true, true, true, true, true, true, true, true, true, true, true, true, true, true, true, true, true, true, true] rfl rfl (by kernel_rfl) (by decide) (fun K hK => ?_)
        refine goes_ Try.func39 (by kernel_rfl) rfl #[.slice A n c, .int .i64 x.1, .int .i64 x.2] (by rfl) rfl rfl (by (try simp only [List.map_toArray, List.map_cons, List.map_nil]); first | done | rfl) ?_
        refine (write_calls (m := m) x.1 x.2 2 rfl HS).mono ?_
        clear HS
        rintro e w ⟨rfl, HS⟩
        refine ⟨_, rfl, ?_⟩
        refine hK.out _ _ ⟨_, HS⟩ (fun hHeld => ?_)
        clear hK K
        refine norm_ (a' := ?_) ?_ ?_
        rotate_left
        · show Act.put _ _ _ = _
          (try simp only [Act.put, List.setIfInBounds_toArray, List.set_cons_zero, List.set_cons_succ, i64_w, i32_w])
          rfl
        refine done_ (by kernel_rfl) ?_
        clear hHeld
        have c71 : w.cell? ⟨g, 71, none⟩ = some (.slice (some ad) (b.length + 1) c1) := mcellT hs HS 0 rfl 2
        have f71 : w.frozen? ⟨g, 71, none⟩ = false := HS.frozen 0 rfl 71
        obtain ⟨i0, hi0, _, hsz, _⟩ := info_parts info99
        have hcut := cut_from (P := Try.prog) 82 99 .i64 Try.underlying82 hi0 2 hsz (some ad) (b.length + 1) c1 1 (by omega) (by omega)
        rw [show (1 : Int).toNat = 1 from rfl] at hcut
        obtain ⟨A2, hA2⟩ : ∃ A2, A2 = (if c1 = 1 then some ad else Option.map (fun x => x.add (1 * 2)) (some ad)) := ⟨_, rfl⟩
        rw [← hA2] at hcut
        have HA2 := Aside0.mk hA2
        clear hA2
        cases gk with
        | zero => have := HJ.out; omega
        | succ k1 =>
          clear r1 hnb x0 x1
          go_wp2
          go_roundg k1
          case measure => omega
          case rel =>
            refine ⟨A2, b.length, c1 - 1, (wWr m x.1 x.2).1, b, ⟨rfl, by omega, by have := HJ.out; omega, by have := HJ.out; omega, ?_⟩, ⟨?_⟩⟩
            rotate_left
            · have h2 := mb_set (vm' := .slice A n c) (vb' := .slice A2 b.length (c1 - 1)) (vs' := vs) (left' := X.left) hs HS 2 (.slice A2 b.length (c1 - 1)) rfl
              have h3 := h2.queTail 1 rfl
              rw [← HA2.out] at h3
              exact h3
            · rw [← HJ.out.2.2.2.2, cmt, if_pos (by omega)]
    · have hkb : decide ((keep : Int) < (nb : Int)) = false := decide_eq_false (by omega)
      go_wp2
      go_end0
      refine ⟨rfl, mClose (by rw [HSE.out] at hs; exact hs) (vb := .slice A1 nb c1) (vs := vs) ?_⟩
      have e1 : m = (commitF keep X).mem ∧ b = (commitF keep X).buf := by
        have e := HJ.out.2.2.2.2
        have e2 : cmt keep m b = (m, b) := by
          cases b with
          | nil => rfl
          | cons x b => have := HJ.out.1; rw [List.length_cons] at this; rw [cmt, if_neg (by omega)]
        unfold commitF
        rw [← e, e2]
        exact ⟨rfl, rfl⟩
      rw [← e1.1, ← e1.2]
      rw [HSE.out] at HS
      exact HS

theorem pt_head {s1 : St} {v0 : Value} {cs : List (List Value)} (hs1 : s1.regs.length = 64) (HS : Sat W0 w L) (i : Nat) {A' : Option Addr} {n' c' : Nat} (hi : L[i]? = some (que 94 70 (.slice A' n' c') ((stL s1 ++ [v0]) :: cs))) :
    n' = cs.length + 1 ∧ ∃ ad, A' = some ad ∧ (∀ j u, (stL s1)[j]? = some u → w.cell? (ad.add j) = some u) ∧ w.cell? ⟨ad.block, ad.off + 69, none⟩ = some v0 := by
  obtain ⟨A2, c2, e, _⟩ := HS.queSlice i hi
  injection e with _ e _
  rw [List.length_cons] at e
  subst e
  obtain ⟨ad, y, rfl, hy, _, hc⟩ := HS.queGet i hi 0 (by omega) (by push_cast; omega)
  have e2 : stL s1 ++ [v0] = y := by simpa using hy
  subst e2
  have ha : ad.add 0 = ad := by unfold Addr.add; simp
  refine ⟨rfl, ad, rfl, fun j u hj => ?_, ?_⟩
  · have h := hc j u (by rw [List.getElem?_append_left (List.getElem?_eq_some_iff.1 hj).1]; exact hj)
    rw [show (0 : Int).toNat * 70 + j = j from by simp] at h
    exact h
  · have h := hc 69 v0 (by rw [List.getElem?_append_right (by rw [stL_length hs1]; omega), stL_length hs1]; rfl)
    rw [add_field _ _ 69 (by omega), show (0 : Int).toNat * 70 = 0 from rfl, ha] at h
    exact h
theorem run_load_at {P : Program} {o : Oper} {a : Act} {w : World} {ad : Addr} (ty : TypeId) (x : Operand) (vs : List Value) (ho : o.op = .load ty x) (hx : a.eval x = .pointer (some ad)) (d : TypeDesc) (hu : P.underlying ty = some d)
    (hdd : (match d with | .struct _ | .array _ _ => true | _ => false) = true) (hin : (P.info? ty).map (·.size) = some vs.length) (hc : ∀ j v, vs[j]? = some v → w.cell? (ad.add j) = some v) : (execOp a.eval o).run P w = .ok (.value (.agg vs.toArray)) w := by
  have hl : (loadCells ad vs.length).run P w = .ok vs.toArray w := run_loadCells_list (P := P) w ad vs hc
  cases hq : P.info? ty with
  | none => simp [hq] at hin
  | some i =>
    have hs : i.size = vs.length := by simpa [hq] using hin
    have hagg : (isAgg ty).run P w = .ok true w := by
      unfold isAgg
      rw [Sem.run_bind, run_underlying hu w]
      cases d <;> simp_all
    have hr : (loadVar ty ad).run P w = .ok (.agg vs.toArray) w := by simp [loadVar, Sem.run_bind, hagg, sizeOf, typeInfo, hq, hs, hl]
    unfold execOp
    simp only [ho, hx, Instr.loadAt, Instr.sureAddr, Sem.run_bind, Sem.run_pure, Result.andThen_ok, hr]
theorem ev_part_step {P : Program} {ops : Array Oper} {o : Oper} {a : Act} {Q : Exit → Act → World → Prop} {Kc : Act → World → Prop} {g : Nat} {t : TypeId} {cs : Array Value} (HS : Sat W0 w L) (i : Nat) (hi : L[i]? = some (blk g t cs))
    (hw : Region.wanted o (yielded ops a.tmps) = true) (ty : TypeId) (p x : Operand) (ho : o.op = .store ty p x) (hd : o.dst = none) (hp : a.eval p = .pointer (some ⟨g, 0, none⟩)) (vs : List Value) (hx : a.eval x = .agg vs.toArray) (hin : (P.info? ty).map (·.size) = some vs.length) (hl : vs.length ≤ cs.size)
    (h1 : ∀ q ∈ vs, q.oneCell' = true) (cs' : Array Value) (he : setA cs 0 vs = cs')
    (h : ∀ w1, Sat W0 w1 (L.set i (blk g t cs')) → Kc a w1) : if Region.wanted o (yielded ops a.tmps) = true then Oper.wp P o a w Kc Q else Kc (a.put none undef) w := by
  rw [if_pos hw]
  have hr := run_store_run (P := P) (w := w) (o := 0) ty (.agg vs.toArray) vs (HS.blk i hi) (by simp [Value.cells]) hin (by omega) h1
  unfold Oper.wp execOp
  simp only [ho, hp, hx, Sem.run_bind, Sem.run_pure, hr, Result.andThen_ok]
  show Kc (a.put o.dst undef) _
  rw [hd]
  refine h _ (HS.upd i hi fun s h => ?_)
  obtain ⟨h1, h2, h3, h4⟩ := but_setCells g vs 0 w
  refine ⟨⟨h1, h2, h3, by omega, fun k _ hs => Sep.heap_setCells g vs 0 w k (fun e => hs (by rw [e]; exact h.2))⟩, ?_, .inl h.2⟩
  rw [← he]
  exact blk_setCells g t vs 0 w cs h.1
theorem setA_state {s s1 : St} {vm vb vs : Value} {left : Int} (hs : s.regs.length = 64) (hs1 : s1.regs.length = 64) : setA (mcL s vc vm vb vs vt win left).toArray 0 (stL s1) = (mcL s1 vc vm vb vs vt win left).toArray := by
  obtain ⟨h1, h2⟩ := setA_get (stL s1) (mcL s vc vm vb vs vt win left).toArray 0 (by rw [stL_length hs1, List.size_toArray, mcL_length hs]; omega)
  apply Array.ext_getElem?
  intro j
  rw [h2 j, stL_length hs1, List.getElem?_toArray, List.getElem?_toArray]
  by_cases hj : j < 69
  · rw [if_pos (by omega), mcL_get hs1 j hj]; rfl
  · obtain ⟨i, rfl⟩ : ∃ i, j = 69 + i := ⟨j - 69, by omega⟩
    rw [if_neg (by omega), mcL_tail hs, mcL_tail hs1]
theorem info_point : (Try.prog.info? 94).map (fun i => (i.zero.isSome, i.size, i.bytes)) = some (true, 70, 576) := by kernel_rfl
/-- Where a machine is behind going back. -/
def backF (X : SM) : SM := match X.saved with
  | none => X
  | some p => { X with s := p.1, buf := p.2, saved := none, n := 0 }

set_option maxRecDepth 100000 in
set_option maxHeartbeats 2000000 in
theorem back_calls {X : SM} {p : St × List (Int × Int)} (hp : X.saved = some p) (HS : Sat W0 w (mch g A n c vc vt win X :: L)) :
    Calls Try.prog 29 #[.pointer (some ⟨g, 0, none⟩)] w fun e w' => ∃ v, e = .returned v ∧ Sat W0 w' (row k66 66 v [⟨6, 0, 0⟩] :: mch g A n c vc vt win (backF X) :: L) := by
  obtain ⟨vb, vs, hs, HS⟩ := mOpen HS
  replace HS := HS.front 3 rfl
  rw [hp] at HS
  obtain ⟨⟨⟨v0, cs⟩, hn, hs1⟩, HS⟩ := Sat.openEx HS
  replace HS := Sat.split HS
  dsimp only at HS hn hs1
  obtain ⟨s1, b1⟩ := p
  dsimp only at HS hs1
  have hb : backF X = { X with s := s1, buf := b1, saved := none, n := 0 } := by unfold backF; rw [hp]
  rw [hb]
  clear hb hp
  obtain ⟨s, hse⟩ : ∃ s, s = X.s := ⟨_, rfl⟩
  rw [← hse] at HS hs
  clear hse
  obtain ⟨As, cx, rfl, _⟩ := HS.queSlice 0 rfl
  rw [List.length_cons] at HS
  obtain ⟨A0, c0, rfl, _⟩ := HS.queSlice 1 rfl
  obtain ⟨nb, hnb⟩ : ∃ nb, (b1.map wc).length = nb := ⟨_, rfl⟩
  rw [hnb] at HS
  obtain ⟨v0, hv0⟩ : ∃ v0, v0 = Value.slice A0 nb c0 := ⟨_, rfl⟩
  rw [← hv0] at HS
  have HV0 := Aside0.mk hv0
  clear hv0 hnb
  obtain ⟨_, ad, rfl, hc, h69⟩ := pt_head hs1 HS 0 rfl
  replace HS := HS.front 2 rfl
  clear hc h69 hn
  go_enter Try.func29, Try.ntmps29
  go_upto_region 1 with (fail)
  refine start_ (n := 26) (S := fun w' => ∃ L', Sat W0 w' (MB g s vc (.slice A n c) vb (.slice (some ad) (cs.length + 1) cx) vt win X.left :: que 94 70 (.slice (some ad) (cs.length + 1) cx) ((stL s1 ++ [v0]) :: cs) :: L')) (ds := [19, 22, 25]) #[false, false, false, false, false, false, false, false, false, false, false, false, false, false, false, false, false, false, false, false, false, false, false, false, false, false] (by kernel_rfl) rfl rfl ⟨_, HS.drew⟩ (fun hHeld => ?_)
  replace HS := HS.drew
  generalize World.drew w = w at HS hHeld ⊢
  refine pure_ (i := 0) (N := some 3) (v := ?_) (a' := ?_) #[true, false, false, false, false, false, false, false, false, false, false, false, false, false, false, false, false, false, false, false, false, false, false, false, false, false] rfl rfl (by kernel_rfl) (fun _ _ _ h => h) (Or.inl ⟨by rfl, ?_⟩) ?_ ?_
  rotate_left
  · intro w'
    go_simp
    with_reducible rfl
  rotate_left
  · (try simp only [Act.put, List.setIfInBounds_toArray, List.set_cons_zero, List.set_cons_succ, i64_w, i32_w])
    rfl
  refine pure_ (i := 1) (N := some 4) (v := ?_) (a' := ?_) #[true, true, false, false, false, false, false, false, false, false, false, false, false, false, false, false, false, false, false, false, false, false, false, false, false, false] rfl rfl (by kernel_rfl) (fun _ _ _ h => h) (Or.inl ⟨by rfl, ?_⟩) ?_ ?_
  rotate_left
  · intro w'
    go_simp
    with_reducible rfl
  rotate_left
  · (try simp only [Act.put, List.setIfInBounds_toArray, List.set_cons_zero, List.set_cons_succ, i64_w, i32_w])
    rfl
  refine pure_ (i := 2) (N := some 5) (v := ?_) (a' := ?_) #[true, true, true, false, false, false, false, false, false, false, false, false, false, false, false, false, false, false, false, false, false, false, false, false, false, false] rfl rfl (by kernel_rfl) (fun _ _ _ h => h) (Or.inl ⟨by rfl, ?_⟩) ?_ ?_
  rotate_left
  · intro w'
    go_simp
    with_reducible rfl
  rotate_left
  · (try simp only [Act.put, List.setIfInBounds_toArray, List.set_cons_zero, List.set_cons_succ, i64_w, i32_w])
    rfl
  refine pure_ (i := 3) (N := some 6) (v := ?_) (a' := ?_) #[true, true, true, true, false, false, false, false, false, false, false, false, false, false, false, false, false, false, false, false, false, false, false, false, false, false] rfl rfl (by kernel_rfl) (fun _ _ _ h => h) (Or.inl ⟨by rfl, ?_⟩) ?_ ?_
  rotate_left
  · intro w'
    go_simp
    with_reducible rfl
  rotate_left
  · (try simp only [Act.put, List.setIfInBounds_toArray, List.set_cons_zero, List.set_cons_succ, i64_w, i32_w])
    rfl
  refine pure_ (i := 4) (N := some 7) (v := ?_) (a' := ?_) #[true, true, true, true, true, false, false, false, false, false, false, false, false, false, false, false, false, false, false, false, false, false, false, false, false, false] rfl rfl (by kernel_rfl) (fun _ _ _ h => h) (Or.inl ⟨by rfl, ?_⟩) ?_ ?_
  rotate_left
  · intro w'
    go_simp
    with_reducible rfl
  rotate_left
  · (try simp only [Act.put, List.setIfInBounds_toArray, List.set_cons_zero, List.set_cons_succ, i64_w, i32_w])
    rfl
  refine pure_ (i := 5) (N := some 8) (v := ?_) (a' := ?_) #[true, true, true, true, true, true, false, false, false, false, false, false, false, false, false, false, false, false, false, false, false, false, false, false, false, false] rfl rfl (by kernel_rfl) (fun _ _ _ h => h) (Or.inl ⟨by rfl, ?_⟩) ?_ ?_
  rotate_left
  · intro w'
    go_simp
    with_reducible rfl
  rotate_left
  · (try simp only [Act.put, List.setIfInBounds_toArray, List.set_cons_zero, List.set_cons_succ, i64_w, i32_w])
    rfl
  refine take_ (i := 6) (N := some 9) (v := ?_) (a' := ?_) #[true, true, true, true, true, true, true, false, false, false, false, false, false, false, false, false, false, false, false, false, false, false, false, false, false, false] rfl rfl (by kernel_rfl) (fun _ _ _ h => h) (Or.inl ⟨by rfl, ?_⟩) hHeld ?_ ?_
  rotate_left
  · rintro w' hS
    obtain ⟨L', hS⟩ := hS
    have c72 : w'.cell? ⟨g, 72, none⟩ = some (.slice (some ad) (cs.length + 1) cx) := mcellT hs hS 0 rfl 3
    obtain ⟨_, ad2, e2, x0, x1⟩ := pt_head hs1 hS 1 rfl
    cases e2
    have r1 := eq_true (show (0 : Int) < ((cs.length + 1 : Nat) : Int) by omega)
    go_simp
    with_reducible rfl
  rotate_left
  · (try simp only [Act.put, List.setIfInBounds_toArray, List.set_cons_zero, List.set_cons_succ, i64_w, i32_w])
    rfl
  refine pure_ (i := 7) (N := some 10) (v := ?_) (a' := ?_) #[true, true, true, true, true, true, true, true, false, false, false, false, false, false, false, false, false, false, false, false, false, false, false, false, false, false] rfl rfl (by kernel_rfl) (fun _ _ _ h => h) (Or.inl ⟨by rfl, ?_⟩) ?_ ?_
  rotate_left
  · intro w'
    go_simp
    with_reducible rfl
  rotate_left
  · (try simp only [Act.put, List.setIfInBounds_toArray, List.set_cons_zero, List.set_cons_succ, i64_w, i32_w])
    rfl
  refine pure_ (i := 8) (N := some 11) (v := ?_) (a' := ?_) #[true, true, true, true, true, true, true, true, true, false, false, false, false, false, false, false, false, false, false, false, false, false, false, false, false, false] rfl rfl (by kernel_rfl) (fun _ _ _ h => h) (Or.inl ⟨by rfl, ?_⟩) ?_ ?_
  rotate_left
  · intro w'
    go_simp
    with_reducible rfl
  rotate_left
  · (try simp only [Act.put, List.setIfInBounds_toArray, List.set_cons_zero, List.set_cons_succ, i64_w, i32_w])
    rfl
  refine take_ (i := 9) (N := some 12) (v := ?_) (a' := ?_) #[true, true, true, true, true, true, true, true, true, true, false, false, false, false, false, false, false, false, false, false, false, false, false, false, false, false] rfl rfl (by kernel_rfl) (fun _ _ _ h => h) (Or.inl ⟨by rfl, ?_⟩) hHeld ?_ ?_
  rotate_left
  · rintro w' hS
    obtain ⟨L', hS⟩ := hS
    have c72 : w'.cell? ⟨g, 72, none⟩ = some (.slice (some ad) (cs.length + 1) cx) := mcellT hs hS 0 rfl 3
    obtain ⟨_, ad2, e2, x0, x1⟩ := pt_head hs1 hS 1 rfl
    cases e2
    have r1 := eq_true (show (0 : Int) < ((cs.length + 1 : Nat) : Int) by omega)
    refine run_load_at 42 (.tmp 11) (stL s1) ?_ ?_ _ Try.underlying42 rfl (len32 hs1) x0 <;> rfl
  rotate_left
  · (try simp only [Act.put, List.setIfInBounds_toArray, List.set_cons_zero, List.set_cons_succ, i64_w, i32_w])
    rfl
  refine pure_ (i := 10) (N := some 13) (v := ?_) (a' := ?_) #[true, true, true, true, true, true, true, true, true, true, true, false, false, false, false, false, false, false, false, false, false, false, false, false, false, false] rfl rfl (by kernel_rfl) (fun _ _ _ h => h) (Or.inl ⟨by rfl, ?_⟩) ?_ ?_
  rotate_left
  · intro w'
    go_simp
    with_reducible rfl
  rotate_left
  · (try simp only [Act.put, List.setIfInBounds_toArray, List.set_cons_zero, List.set_cons_succ, i64_w, i32_w])
    rfl
  refine pure_ (i := 11) (N := some 14) (v := ?_) (a' := ?_) #[true, true, true, true, true, true, true, true, true, true, true, true, false, false, false, false, false, false, false, false, false, false, false, false, false, false] rfl rfl (by kernel_rfl) (fun _ _ _ h => h) (Or.inl ⟨by rfl, ?_⟩) ?_ ?_
  rotate_left
  · intro w'
    go_simp
    with_reducible rfl
  rotate_left
  · (try simp only [Act.put, List.setIfInBounds_toArray, List.set_cons_zero, List.set_cons_succ, i64_w, i32_w])
    rfl
  refine pure_ (i := 12) (N := some 15) (v := ?_) (a' := ?_) #[true, true, true, true, true, true, true, true, true, true, true, true, true, false, false, false, false, false, false, false, false, false, false, false, false, false] rfl rfl (by kernel_rfl) (fun _ _ _ h => h) (Or.inl ⟨by rfl, ?_⟩) ?_ ?_
  rotate_left
  · intro w'
    go_simp
    with_reducible rfl
  rotate_left
  · (try simp only [Act.put, List.setIfInBounds_toArray, List.set_cons_zero, List.set_cons_succ, i64_w, i32_w])
    rfl
  refine take_ (i := 13) (N := some 16) (v := ?_) (a' := ?_) #[true, true, true, true, true, true, true, true, true, true, true, true, true, true, false, false, false, false, false, false, false, false, false, false, false, false] rfl rfl (by kernel_rfl) (fun _ _ _ h => h) (Or.inl ⟨by rfl, ?_⟩) hHeld ?_ ?_
  rotate_left
  · rintro w' hS
    obtain ⟨L', hS⟩ := hS
    have c72 : w'.cell? ⟨g, 72, none⟩ = some (.slice (some ad) (cs.length + 1) cx) := mcellT hs hS 0 rfl 3
    obtain ⟨_, ad2, e2, x0, x1⟩ := pt_head hs1 hS 1 rfl
    cases e2
    have r1 := eq_true (show (0 : Int) < ((cs.length + 1 : Nat) : Int) by omega)
    go_simp
    with_reducible rfl
  rotate_left
  · (try simp only [Act.put, List.setIfInBounds_toArray, List.set_cons_zero, List.set_cons_succ, i64_w, i32_w])
    rfl
  refine pure_ (i := 14) (N := some 17) (v := ?_) (a' := ?_) #[true, true, true, true, true, true, true, true, true, true, true, true, true, true, true, false, false, false, false, false, false, false, false, false, false, false] rfl rfl (by kernel_rfl) (fun _ _ _ h => h) (Or.inl ⟨by rfl, ?_⟩) ?_ ?_
  rotate_left
  · intro w'
    go_simp
    with_reducible rfl
  rotate_left
  · (try simp only [Act.put, List.setIfInBounds_toArray, List.set_cons_zero, List.set_cons_succ, i64_w, i32_w])
    rfl
  refine pure_ (i := 15) (N := some 18) (v := ?_) (a' := ?_) #[true, true, true, true, true, true, true, true, true, true, true, true, true, true, true, true, false, false, false, false, false, false, false, false, false, false] rfl rfl (by kernel_rfl) (fun _ _ _ h => h) (Or.inl ⟨by rfl, ?_⟩) ?_ ?_
  rotate_left
  · intro w'
    go_simp
    with_reducible rfl
  rotate_left
  · (try simp only [Act.put, List.setIfInBounds_toArray, List.set_cons_zero, List.set_cons_succ, i64_w, i32_w])
    rfl
  refine take_ (i := 16) (N := some 19) (v := ?_) (a' := ?_) #[true, true, true, true, true, true, true, true, true, true, true, true, true, true, true, true, true, false, false, false, false, false, false, false, false, false] rfl rfl (by kernel_rfl) (fun _ _ _ h => h) (Or.inl ⟨by rfl, ?_⟩) hHeld ?_ ?_
  rotate_left
  · rintro w' hS
    obtain ⟨L', hS⟩ := hS
    have c72 : w'.cell? ⟨g, 72, none⟩ = some (.slice (some ad) (cs.length + 1) cx) := mcellT hs hS 0 rfl 3
    obtain ⟨_, ad2, e2, x0, x1⟩ := pt_head hs1 hS 1 rfl
    cases e2
    have r1 := eq_true (show (0 : Int) < ((cs.length + 1 : Nat) : Int) by omega)
    go_simp
    with_reducible rfl
  rotate_left
  · (try simp only [Act.put, List.setIfInBounds_toArray, List.set_cons_zero, List.set_cons_succ, i64_w, i32_w])
    rfl
  refine pure_ (i := 17) (N := some 20) (v := ?_) (a' := ?_) #[true, true, true, true, true, true, true, true, true, true, true, true, true, true, true, true, true, true, false, false, false, false, false, false, false, false] rfl rfl (by kernel_rfl) (fun _ _ _ h => h) (Or.inl ⟨by rfl, ?_⟩) ?_ ?_
  rotate_left
  · intro w'
    go_simp
    with_reducible rfl
  rotate_left
  · (try simp only [Act.put, List.setIfInBounds_toArray, List.set_cons_zero, List.set_cons_succ, i64_w, i32_w])
    rfl
  refine pure_ (i := 18) (N := some 21) (v := ?_) (a' := ?_) #[true, true, true, true, true, true, true, true, true, true, true, true, true, true, true, true, true, true, true, false, false, false, false, false, false, false] rfl rfl (by kernel_rfl) (fun _ _ _ h => h) (Or.inl ⟨by rfl, ?_⟩) ?_ ?_
  rotate_left
  · intro w'
    go_simp
    with_reducible rfl
  rotate_left
  · (try simp only [Act.put, List.setIfInBounds_toArray, List.set_cons_zero, List.set_cons_succ, i64_w, i32_w])
    rfl
  refine last_ (i := 19) (N := none) #[true, true, true, true, true, true, true, true, true, true, true, true, true, true, true, true, true, true, true, true, false, false, false, false, false, false] rfl rfl (by kernel_rfl) (by decide) (fun K hK => ?_)
  refine ev_part_step HS 0 rfl (by rfl) 42 (.tmp 21) (.tmp 12) rfl rfl rfl (stL s1) rfl (len32 hs1) (by rw [stL_length hs1, List.size_toArray, mcL_length hs]; omega) (stL_one _) _ (setA_state hs hs1) ?_
  clear HS
  intro w HS
  replace HS : Sat W0 w (MB g s1 vc (.slice A n c) vb (.slice (some ad) (cs.length + 1) cx) vt win X.left :: que 94 70 (.slice (some ad) (cs.length + 1) cx) ((stL s1 ++ [v0]) :: cs) :: BQ v0 b1 :: BQ vb X.buf :: row IW 2 (.slice A n c) X.mem :: L) := HS
  refine hK.out _ _ ?_
  clear hK K
  refine pure_ (i := 20) (N := some 22) (v := ?_) (a' := ?_) #[true, true, true, true, true, true, true, true, true, true, true, true, true, true, true, true, true, true, true, true, true, false, false, false, false, false] rfl rfl (by kernel_rfl) (fun _ _ _ h => h) (Or.inl ⟨by rfl, ?_⟩) ?_ ?_
  rotate_left
  · intro w'
    go_simp
    with_reducible rfl
  rotate_left
  · (try simp only [Act.put, List.setIfInBounds_toArray, List.set_cons_zero, List.set_cons_succ, i64_w, i32_w])
    rfl
  refine pure_ (i := 21) (N := some 23) (v := ?_) (a' := ?_) #[true, true, true, true, true, true, true, true, true, true, true, true, true, true, true, true, true, true, true, true, true, true, false, false, false, false] rfl rfl (by kernel_rfl) (fun _ _ _ h => h) (Or.inl ⟨by rfl, ?_⟩) ?_ ?_
  rotate_left
  · intro w'
    go_simp
    with_reducible rfl
  rotate_left
  · (try simp only [Act.put, List.setIfInBounds_toArray, List.set_cons_zero, List.set_cons_succ, i64_w, i32_w])
    rfl
  refine last_ (i := 22) (N := none) #[true, true, true, true, true, true, true, true, true, true, true, true, true, true, true, true, true, true, true, true, true, true, true, false, false, false] rfl rfl (by kernel_rfl) (by decide) (fun K hK => ?_)
  have f71 : w.frozen? ⟨g, 71, none⟩ = false := HS.frozen 0 rfl 71
  have c71 : w.cell? ⟨g, 71, none⟩ = some vb := mcellT hs1 HS 0 rfl 2
  have v0e := HV0.out
  refine ev_put_step HS 0 rfl 71 (by rfl) rfl (v := v0) ?hrun ?_
  (case hrun => rw [v0e]; go_simp; first | done | rfl)
  clear c71 f71 v0e
  intro w HS1
  have e71 : (mcL s1 vc (.slice A n c) vb (.slice (some ad) (cs.length + 1) cx) vt win X.left).toArray.setIfInBounds 71 v0 = (mcL s1 vc (.slice A n c) v0 (.slice (some ad) (cs.length + 1) cx) vt win X.left).toArray := by rw [mcL_setTail hs1 2 v0 rfl, List.setIfInBounds_toArray]
  rw [e71] at HS1
  clear HS e71
  have HS : Sat W0 w (MB g s1 vc (.slice A n c) v0 (.slice (some ad) (cs.length + 1) cx) vt win X.left :: que 94 70 (.slice (some ad) (cs.length + 1) cx) ((stL s1 ++ [v0]) :: cs) :: BQ v0 b1 :: BQ vb X.buf :: row IW 2 (.slice A n c) X.mem :: L) := HS1
  clear HS1
  refine hK.out _ _ ?_
  clear hK K
  refine pure_ (i := 23) (N := some 24) (v := ?_) (a' := ?_) #[true, true, true, true, true, true, true, true, true, true, true, true, true, true, true, true, true, true, true, true, true, true, true, true, false, false] rfl rfl (by kernel_rfl) (fun _ _ _ h => h) (Or.inl ⟨by rfl, ?_⟩) ?_ ?_
  rotate_left
  · intro w'
    go_simp
    with_reducible rfl
  rotate_left
  · (try simp only [Act.put, List.setIfInBounds_toArray, List.set_cons_zero, List.set_cons_succ, i64_w, i32_w])
    rfl
  refine pure_ (i := 24) (N := some 25) (v := ?_) (a' := ?_) #[true, true, true, true, true, true, true, true, true, true, true, true, true, true, true, true, true, true, true, true, true, true, true, true, true, false] rfl rfl (by kernel_rfl) (fun _ _ _ h => h) (Or.inl ⟨by rfl, ?_⟩) ?_ ?_
  rotate_left
  · intro w'
    go_simp
    with_reducible rfl
  rotate_left
  · (try simp only [Act.put, List.setIfInBounds_toArray, List.set_cons_zero, List.set_cons_succ, i64_w, i32_w])
    rfl
  refine last_ (i := 25) (N := none) #[true, true, true, true, true, true, true, true, true, true, true, true, true, true, true, true, true, true, true, true, true, true, true, true, true, true] rfl rfl (by kernel_rfl) (by decide) (fun K hK => ?_)
  have f72 : w.frozen? ⟨g, 72, none⟩ = false := HS.frozen 0 rfl 72
  have c72 : w.cell? ⟨g, 72, none⟩ = some (.slice (some ad) (cs.length + 1) cx) := mcellT hs1 HS 0 rfl 3
  refine ev_put_step HS 0 rfl 72 (by rfl) rfl (v := .slice none 0 0) ?hrun ?_
  (case hrun => go_simp; first | done | rfl)
  clear c72 f72
  intro w HS1
  have e72 : (mcL s1 vc (.slice A n c) v0 (.slice (some ad) (cs.length + 1) cx) vt win X.left).toArray.setIfInBounds 72 (.slice none 0 0) = (mcL s1 vc (.slice A n c) v0 (.slice none 0 0) vt win X.left).toArray := by rw [mcL_setTail hs1 3 (.slice none 0 0) rfl, List.setIfInBounds_toArray]
  rw [e72] at HS1
  clear HS e72
  have HS : Sat W0 w (MB g s1 vc (.slice A n c) v0 (.slice none 0 0) vt win X.left :: que 94 70 (.slice (some ad) (cs.length + 1) cx) ((stL s1 ++ [v0]) :: cs) :: BQ v0 b1 :: BQ vb X.buf :: row IW 2 (.slice A n c) X.mem :: L) := HS1
  clear HS1
  refine hK.out _ _ ?_
  clear hK K
  refine done_ (by kernel_rfl) ?_
  clear hHeld
  replace HS : Sat W0 w (mch g A n c vc vt win { X with s := s1, buf := b1, saved := none, n := 0 } :: L) := by
    have h2 : Sat W0 w (que 94 70 (.slice none 0 0) [] :: MB g s1 vc (.slice A n c) v0 (.slice none 0 0) vt win X.left :: BQ v0 b1 :: row IW 2 (.slice A n c) X.mem :: L) := ((HS.erase 1).erase 2).queNil _ _ _
    have h3 := Sat.join (h2.addFact (φ := (0 : Nat) = 0) rfl)
    refine mClose (X := { X with s := s1, buf := b1, saved := none, n := 0 }) hs1 (vb := v0) (vs := .slice none 0 0) ?_
    exact h3.insert 3 (by simp)
  go_wp2_with ((with_reducible refine gate_dst (N := 27) rfl ?_); go_must (refine ev_lit k66 (e := 66) HS rfl (N := 27) rfl (xs := [⟨6, 0, 0⟩]) (inner := [.int .i64 6, .int .i64 0, .int .i64 0]) ?hrun (reps1 ⟨6, 0, 0⟩) (by first | decide | simp) ?_); (case hrun => first | (go_simp; done) | (go_simp; rfl)); clear HS; intro gl w HS)
  go_ret
  exact ⟨_, rfl, HS⟩

end
end Go.Proofs.Ytkgoljbimblkhaa.B
