/- AstSame: places don't count, all else does, for every expression, every part, every place. -/
import Derived.Test.YtaammdmaldodaaaDoorAstProgSame
namespace Go.Proofs.YtaammdmaldodaaaDoor.B
open Go.RowKit Go.Proofs.YtaammdmaldodaaaDoor.Mine Go.Proofs.YtaammdmaldodaaaDoor.Sep Go.Proofs.YtaammdmaldodaaaDoorW.PrintWords Go.Proofs.YtaammdmaldodaaaDoorW.PrintLast Go.Proofs.YtaammdmaldodaaaDoorW.PrintMore
set_option linter.unusedVariables false
set_option linter.unusedSimpArgs false
theorem reps_set' {α : Type} {R : α → List Value → Prop} {size : Nat} {ps : List α} {cs : List Value} (h : Reps R size ps cs) {i j : Nat} (hi : i < ps.length) (hj : j < size) {x : α} {u : Value} (hx : R x (((cs.drop (i * size)).take size).set j u)) : Reps R size (ps.set i x) (cs.set (i * size + j) u) := by
  refine ⟨by rw [List.length_set, List.length_set, h.1], fun m p hm => ?_⟩
  have hml : m < ps.length := by have := (List.getElem?_eq_some_iff.1 hm).1; rwa [List.length_set] at this
  by_cases hmi : m = i
  · subst hmi
    rw [List.getElem?_set_self hml] at hm
    injection hm with hm
    subst hm
    have e : ((cs.set (m * size + j) u).drop (m * size)).take size = ((cs.drop (m * size)).take size).set j u := by
      rw [List.drop_set, if_neg (by omega), show m * size + j - m * size = j by omega, List.take_set]
    rw [e]
    exact hx
  · rw [List.getElem?_set_ne (fun e => hmi e.symm)] at hm
    have h2 := h.2 m p hm
    have e : ((cs.set (i * size + j) u).drop (m * size)).take size = (cs.drop (m * size)).take size := by
      apply List.ext_getElem?
      intro q
      rw [List.getElem?_take, List.getElem?_take]
      split
      · rename_i hq
        rw [List.getElem?_drop, List.getElem?_drop, List.getElem?_set_ne]
        intro he
        rcases Nat.lt_or_gt_of_ne hmi with h3 | h3
        · have : (m + 1) * size ≤ i * size := Nat.mul_le_mul_right _ h3
          rw [Nat.add_mul] at this
          omega
        · have : (i + 1) * size ≤ m * size := Nat.mul_le_mul_right _ h3
          rw [Nat.add_mul] at this
          omega
      · rfl
    rw [e]
    exact h2
section
variable {α : Type} {W0 w : World} {L : List Chunk}
theorem sat_rowAt {d : Kd α} {e : Nat} {A : Option Addr} {n c : Nat} {xs : List α} (HS : Sat W0 w L) (i : Nat) (hi : L[i]? = some (row d e (.slice A n c) xs)) (h0 : 0 < xs.length) : ∃ g, A = some ⟨g, 0, none⟩ ∧ ∀ j, w.frozen? ⟨g, j, none⟩ = false := by
  obtain ⟨s, h⟩ := HS.row i hi
  obtain ⟨inner, ho, _⟩ := h.2
  rcases ho.2 with ⟨_, h1⟩ | ⟨g, cap, cur, hv, _, hg, _⟩
  · omega
  · cases hv
    exact ⟨g, rfl, fun j => by simp [World.frozen?, hg]⟩
/-- A field of a row's element is turned. -/
theorem sat_field {d : Kd α} {e g c : Nat} {xs : List α} (HS : Sat W0 w L) (i : Nat) (hi : L[i]? = some (row d e (.slice (some ⟨g, 0, none⟩) xs.length c) xs)) (m : Nat) (hm : m < xs.length) (j : Nat) (hj : j < d.sz) (u : Value) (x' : α)
    (hM : ∀ (w' : World) (base : Nat) (ok : Nat → Prop) (c : List Value), d.M w' base ok xs[m] c → d.M w' base ok x' (c.set j u)) :
    Sat W0 (w.setCell ⟨g, m * d.sz + j, none⟩ u) (L.set i (row d e (.slice (some ⟨g, 0, none⟩) xs.length c) (xs.set m x'))) := by
  refine HS.upd i hi fun s h => ?_
  have h0 : s g := h.1 g (by simp [Value.ownBlock])
  obtain ⟨hown, inner, ho, hr⟩ := h
  refine ⟨⟨rfl, rfl, rfl, by simp [World.setCell], fun k _ hk => Below.heap_setCell _ _ _ _ (fun e => hk (by have : k = g := e; rw [this]; exact h0))⟩, fun k hk => .inl (hown k hk), inner.set (m * d.sz + j) u, ?_, ?_⟩
  · refine ⟨by rw [List.length_set, List.length_set]; exact ho.1, ?_⟩
    rcases ho.2 with ⟨h1, _⟩ | ⟨g', cap, cur, hv, hb, hg, hn, hc, hs, ht⟩
    · cases h1
    · cases hv
      refine .inr ⟨g, c, cur.setIfInBounds (m * d.sz + j) u, by rw [List.length_set], hb, blk_set hg _ _, by rw [List.length_set]; exact hn, hc, by rw [Array.size_setIfInBounds]; exact hs, ?_⟩
      rw [List.length_set, Array.toList_setIfInBounds, List.take_set, ht]
  · have h2 := reps_set' (hr.imp_ (fun p c hp => Kd.M_step hp (fun k hk _ => Below.heap_setCell w ⟨g, m * d.sz + j, none⟩ u k (fun he => hk.2 (by simp only at he; rw [he]; simp [Value.ownBlock]))))) (i := m) (j := j) hm hj (x := x') (u := u) (hM _ _ _ _ (by
      have := hr.2 m xs[m] (List.getElem?_eq_getElem hm)
      exact Kd.M_step this (fun k hk _ => Below.heap_setCell w ⟨g, m * d.sz + j, none⟩ u k (fun he => hk.2 (by simp only at he; rw [he]; simp [Value.ownBlock])))))
    exact h2.imp_ (fun p c hp => d.M_mono (fun k hk => ⟨.inl hk.1, hk.2⟩) hp)
end
def flipE (q : S31) (v : Int) : S31 := ⟨q.f0, q.f1, v, q.f3, q.f4, q.f5⟩
def lastE (kd : List S31) : S31 := kd.getD (kd.length - 1) z31
/-- The last one's number turned. -/
def turnL (kd : List S31) : List S31 := kd.set (kd.length - 1) (flipE (lastE kd) (Go.bits .xor .i64 (lastE kd).f2 1))
theorem eta_E (e : S31) : (⟨e.f0, e.f1, e.f2, e.f3, e.f4, e.f5⟩ : S31) = e := by cases e; rfl
theorem xor_ne (n : Int) : Go.bits .xor .i64 n 1 ≠ n := by
  intro h
  have key : BitVec.ofInt 64 (IntKind.i64.wrap ((BitVec.ofInt 64 n ^^^ BitVec.ofInt 64 1).toNat : Nat)) = BitVec.ofInt 64 n ^^^ BitVec.ofInt 64 1 := by
    apply BitVec.eq_of_toNat_eq
    rw [BitVec.toNat_ofInt, IntKind.wrap_i64]
    have := (BitVec.ofInt 64 n ^^^ BitVec.ofInt 64 1).isLt
    omega
  have h2 : IntKind.i64.wrap ((BitVec.ofInt 64 n ^^^ BitVec.ofInt 64 1).toNat : Nat) = n := h
  rw [h2] at key
  have h3 : (0 : BitVec 64) = BitVec.ofInt 64 1 := by
    have := congrArg (fun x => BitVec.ofInt 64 n ^^^ x) key
    rw [← BitVec.xor_assoc, BitVec.xor_self, BitVec.zero_xor] at this
    exact this
  exact absurd h3 (by decide)
set_option maxRecDepth 100000 in
set_option maxHeartbeats 4000000 in
theorem asame_few (e : S31) (A : Option Addr) (c : Nat) (which n : Int) (W : World) (hG : GL W) (hcap : e.f5.length ≤ c) (hC : Kd.C k31 W A e.f5.length e.f5) (hf : fewN 9 e = false) :
    Calls Tryd.prog 4 #[.agg #[.int .i64 e.f0, .int .i64 e.f1.f0, .int .i64 e.f1.f1, .int .i64 e.f2, .string e.f3, .int .i64 e.f4, .slice A e.f5.length c], .int .i64 which, .int .i64 n] W fun r W' => r = .returned (.bool true) ∧ Below W.heap.size W W' := by
  have HS := Sat.start W
  obtain ⟨nm, hnm⟩ : ∃ nm, e.f3 = bs nm := ⟨_, (bs_eta e.f3).symm⟩
  have HNM := Aside0.mk hnm
  rw [hnm]
  have HFC := Aside0.mk (fun (w : World) (hb : Below W.heap.size W w) => palingslaw03_Few.calls 200 e.f0 e.f1.f0 e.f1.f1 e.f2 (bs nm) e.f4 A c e.f5 0 _ w (Kd.C_below hC hb) hcap (by rw [← hnm]; exact few_f 9 0 (by omega) (by omega) e 200 (by omega)))
  rw [hf] at HFC
  clear hf hnm hC
  go_enter Tryd.func4, Tryd.ntmps4
  go_upto_region 1 with ((with_reducible refine gate_dst (N := 3) rfl ?_); go_must (refine ev_box HS rfl (N := 3) rfl (cs := #[.int .i64 e.f0, .int .i64 e.f1.f0, .int .i64 e.f1.f1, .int .i64 e.f2, .string (bs nm), .int .i64 e.f4, .slice A e.f5.length c]) (t := 31) ?hrun ?_); (case hrun => first | (go_simp; done) | (go_simp; rfl)); clear HS; intro g3 w HS)
  go_upto_region 3 with (go_at_call 7; refine (head_calls (fun w h => hG.below (h.old 1 rfl)) HS).mono ?_; rintro r w_ ⟨rfl, HS_⟩; clear HS; have HS := HS_; clear HS_)
  go_wp2_with (first | ((with_reducible refine gate_dst (N := 14) rfl ?_); ((with_reducible refine gate_load (ty := 31) (p := 3) rfl ?_); go_must (refine ev_load HS 0 rfl rfl 31 (.tmp 3) rfl (N := 14) rfl rfl _ Tryd.underlying31 rfl (by kernel_rfl) ?_))) | (go_at_call 9; refine (HFC.out _ (HS.old 1 rfl)).mono ?_; rintro r w_ ⟨rfl, hb⟩; replace HS := HS.below hb; clear hb))
  go_ret
  exact ⟨rfl, HS.old 1 rfl⟩
end Go.Proofs.YtaammdmaldodaaaDoor.B
