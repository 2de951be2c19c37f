/- Two memories that differ at one place: where nothing reads there the steps are the same. -/
import Derived.Test.YtigimkcppocodaaMachSame
namespace Go.Proofs.Ytigimkcppocodaa.B
open Go.RowKit Go.Proofs.Ytigimkcppocodaa.Mine Go.Proofs.Ytigimkcppocodaa.Sep Go.Proofs.YtigimkcppocodaaW.PrintWords Go.Proofs.YtigimkcppocodaaW.PrintLast Go.Proofs.YtigimkcppocodaaW.PrintMore
set_option linter.unusedVariables false
set_option linter.unusedSimpArgs false

structure Diff (x : Int) (a b : List Int) : Prop where
  len : a.length = b.length
  get : ∀ k : Nat, (k : Int) ≠ x → a[k]? = b[k]?
theorem Diff.set_one {a : List Int} {x v : Int} (h0 : 0 ≤ x) : Diff x a (a.set x.toNat v) :=
  ⟨by rw [List.length_set], fun k hk => by rw [List.getElem?_set_ne (by omega)]⟩
theorem Diff.rdx {x : Int} {a b : List Int} (h : Diff x a b) (y : Int) (hy : y ≠ x) : wRd a y = wRd b y := by
  unfold wRd
  rw [h.len]
  by_cases hb : 0 ≤ y ∧ y < (b.length : Int)
  · rw [if_pos hb, if_pos hb]
    unfold rd
    rw [List.getD_eq_getElem?_getD, List.getD_eq_getElem?_getD, h.get y.toNat (by omega)]
  · rw [if_neg hb, if_neg hb]
theorem Diff.wr {x : Int} {a b : List Int} (h : Diff x a b) (y v : Int) : (wWr a y v).2 = (wWr b y v).2 ∧ Diff x (wWr a y v).1 (wWr b y v).1 := by
  unfold wWr
  rw [h.len]
  by_cases hb : 0 ≤ y ∧ y < (b.length : Int)
  · rw [if_pos hb, if_pos hb]
    refine ⟨rfl, by rw [List.length_set, List.length_set, h.len], fun k hk => ?_⟩
    rw [List.getElem?_set, List.getElem?_set, h.get k hk, h.len]
  · rw [if_neg hb, if_neg hb]
    exact ⟨rfl, h⟩
/-- What a step shows, and leaves, is the same; or it reaches for x. -/
def Agree (x : Int) (r q : St × List Int × List S53) : Prop := (∃ o ∈ r.2.2, o.f0 = 2 ∧ o.f1 = x) ∨ (r.1 = q.1 ∧ r.2.2 = q.2.2 ∧ Diff x r.2.1 q.2.1)
theorem reach_two {x : Int} {a b : List Int} (h : Diff x a b) (i : S58) (s : St) : Agree x (reachF wF i s a) (reachF wF i s b) := by
  by_cases hx : wrap64 (rd s.regs i.f2 + i.f5) = x
  · left
    refine ⟨⟨2, wrap64 (rd s.regs i.f2 + i.f5), 0⟩, ?_, rfl, hx⟩
    unfold reachF
    split <;> split <;> simp
  · right
    have h1 : wF.rd a (wrap64 (rd s.regs i.f2 + i.f5)) = wF.rd b (wrap64 (rd s.regs i.f2 + i.f5)) := h.rdx _ hx
    have h2 := h.wr (wrap64 (rd s.regs i.f2 + i.f5)) (rd s.regs i.f3)
    unfold reachF
    rw [h1, show (wF.wr a (wrap64 (rd s.regs i.f2 + i.f5)) (rd s.regs i.f3)).2 = (wF.wr b (wrap64 (rd s.regs i.f2 + i.f5)) (rd s.regs i.f3)).2 from h2.1]
    split
    · split
      · exact ⟨rfl, rfl, h⟩
      · exact ⟨rfl, rfl, h⟩
    · split
      · exact ⟨rfl, rfl, h2.2⟩
      · exact ⟨rfl, rfl, h2.2⟩
theorem call_two {x : Int} {a b : List Int} (h : Diff x a b) (i : S58) (s : St) : Agree x (callF wF i s a) (callF wF i s b) := by
  by_cases hx : rd s.regs 63 = x
  · left
    refine ⟨⟨2, rd s.regs 63, 0⟩, ?_, rfl, hx⟩
    unfold callF
    split <;> split <;> simp
  · right
    have h1 : wF.rd a (rd s.regs 63) = wF.rd b (rd s.regs 63) := h.rdx _ hx
    have h2 := h.wr (rd s.regs 63) (wrap64 (s.pc + 1))
    unfold callF
    rw [h1, show (wF.wr a (rd s.regs 63) (wrap64 (s.pc + 1))).2 = (wF.wr b (rd s.regs 63) (wrap64 (s.pc + 1))).2 from h2.1]
    split
    · split
      · exact ⟨rfl, rfl, h2.2⟩
      · exact ⟨rfl, rfl, h2.2⟩
    · split
      · exact ⟨rfl, rfl, h⟩
      · exact ⟨rfl, rfl, h⟩
theorem do_two {x : Int} {a b : List Int} (h : Diff x a b) (i : S58) (s : St) : Agree x (doF wF i s a) (doF wF i s b) := by
  unfold doF
  split
  · exact .inr ⟨rfl, rfl, h⟩
  split
  · exact .inr ⟨rfl, rfl, h⟩
  split
  · split <;> exact .inr ⟨rfl, rfl, h⟩
  split
  · exact reach_two h i s
  split
  · exact .inr ⟨rfl, rfl, h⟩
  split
  · split <;> exact .inr ⟨rfl, rfl, h⟩
  split
  · exact call_two h i s
  split
  · exact .inr ⟨rfl, rfl, h⟩
  split <;> exact .inr ⟨rfl, rfl, h⟩
theorem step_two {x : Int} {a b : List Int} (h : Diff x a b) (code : List S58) (s : St) : Agree x (stepF wF code s a) (stepF wF code s b) := by
  unfold stepF
  split
  · exact .inr ⟨rfl, rfl, h⟩
  split
  · exact .inr ⟨rfl, rfl, h⟩
  · rcases do_two h (rd_T58 code s.pc) { s with steps := wrap64 (s.steps + 1) } with ⟨o, ho, h1⟩ | ⟨h1, h2, h3⟩
    · exact .inl ⟨o, List.mem_cons_of_mem _ ho, h1⟩
    · exact .inr ⟨h1, by rw [h2], h3⟩
end Go.Proofs.Ytigimkcppocodaa.B
