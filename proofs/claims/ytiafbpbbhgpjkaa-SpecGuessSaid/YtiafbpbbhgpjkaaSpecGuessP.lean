/- SpecGuess, its pure part: the program, and what the machine does with it, tried case by case. -/
import Derived.Test.YtiafbpbbhgpjkaaSpecAt
import Derived.Test.YtiafbpbbhgpjkaaSpecQ
namespace Go.Proofs.Ytiafbpbbhgpjkaa.B
open Go.RowKit Go.Proofs.Ytiafbpbbhgpjkaa.Mine Go.Proofs.Ytiafbpbbhgpjkaa.Sep Go.Proofs.YtiafbpbbhgpjkaaW.PrintWords Go.Proofs.YtiafbpbbhgpjkaaW.PrintLast Go.Proofs.YtiafbpbbhgpjkaaW.PrintMore
set_option linter.unusedVariables false
set_option linter.unusedSimpArgs false
/-- The program that the law builds. -/
def gC0 (yes : Bool) : List S48 := [⟨1, 1, 0, 0, 0, if yes then 7 else 0⟩, ⟨7, 0, 1, 0, 0, 3⟩, ⟨1, 2, 0, 0, 0, 1⟩]
def gNums : Nat → List S48
  | 0 => []
  | n + 1 => gNums n ++ [⟨1, 3, 0, 0, 0, (n : Int)⟩]
def gC (yes : Bool) (n : Nat) : List S48 := gC0 yes ++ gNums n ++ [⟨10, 0, 0, 0, 0, 0⟩, ⟨11, 0, 2, 0, 0, 0⟩]
def gD (yes : Bool) (n : Nat) (win : Int) (X : SM) (d : Int) : SM × List S60 := doM (gC yes n) (sitesF (gC yes n) 0) win X d 0
def gX2 (yes : Bool) (n : Nat) (win : Int) : SM × List S60 := gD yes n win (gD yes n win (newX 0 0 [] []) 0).1 1
/-- The machine so many honest deeds behind the wrong one. -/
def gAt (yes : Bool) (n : Nat) (win : Int) : Nat → SM
  | 0 => (gX2 yes n win).1
  | k + 1 => (gD yes n win (gAt yes n win k) 0).1
def gFar (yes : Bool) (n win : Nat) (how : Bool) : Nat := if how then 0 else min (if yes then n + 1 else n) win
def gOk1 (yes : Bool) (n : Nat) (win : Int) : Bool :=
  (gX2 yes n win).1.saved.isSome && (gX2 yes n win).2.length == 2 && ((gX2 yes n win).2.getD 1 ⟨0, 0, 0⟩).f0 == 3 && ((((gX2 yes n win).2.getD 1 ⟨0, 0, 0⟩).f1 == 1) == yes) && ((gX2 yes n win).1.s.pc == 2) == yes
def gOk3 (yes : Bool) (n : Nat) (R : SM × List S60) : Bool :=
  !R.1.saved.isSome && R.2.length == 1 && (R.2.getD 0 ⟨0, 0, 0⟩).f0 == 6 && ((R.1.s.pc == 3) == yes) && ((R.1.s.pc == 2) != yes) && (R.1.s.regs.getD 3 0 == 0)
/-- The machine goes on from X so often, each time as it should, and then comes back. -/
def gRun (yes : Bool) (n : Nat) (win : Int) (last : Int) : Nat → SM → Bool
  | 0, X => gOk3 yes n (gD yes n win X last)
  | k + 1, X => match gD yes n win X 0 with | (Y, o) => Y.saved.isSome && o.length == 1 && gRun yes n win last k Y
def gChk (yes : Bool) (n win : Nat) (how : Bool) : Bool := gOk1 yes n win && gRun yes n win (if how then 3 else 0) (gFar yes n win how) (gX2 yes n win).1
def gAll : Bool := (List.range 32).all fun n => (List.range 16).all fun w => gChk true n (w + 1) true && gChk true n (w + 1) false && gChk false n (w + 1) true && gChk false n (w + 1) false
set_option maxRecDepth 1000000 in
set_option maxHeartbeats 4000000 in
theorem gAll_true : gAll = true := by kernel_rfl
theorem g_chk (yes how : Bool) (n win : Nat) (hn : n < 32) (h1 : 1 ≤ win) (h2 : win ≤ 16) : gChk yes n win how = true := by
  have h := gAll_true
  unfold gAll at h
  have h3 := List.all_eq_true.1 (List.all_eq_true.1 h n (List.mem_range.2 hn)) (win - 1) (List.mem_range.2 (by omega))
  rw [Nat.sub_add_cancel h1] at h3
  simp only [Bool.and_eq_true] at h3
  obtain ⟨⟨⟨a, b⟩, c⟩, d⟩ := h3
  cases yes <;> cases how <;> assumption
def gRight : Bool := (List.range 32).all fun n => image_Image_Right.f 500 (gC true n) [] 0 0 == some true && image_Image_Right.f 500 (gC false n) [] 0 0 == some true
set_option maxRecDepth 1000000 in
set_option maxHeartbeats 4000000 in
theorem gRight_true : gRight = true := by kernel_rfl
theorem g_right (yes : Bool) (n : Nat) (hn : n < 32) : image_Image_Right.f 500 (gC yes n) [] 0 0 = some true := by
  have h := List.all_eq_true.1 (show (List.range 32).all _ = true from gRight_true) n (List.mem_range.2 hn)
  simp only [Bool.and_eq_true, beq_iff_eq] at h
  cases yes
  · exact h.2
  · exact h.1
theorem gNums_length : ∀ n, (gNums n).length = n
  | 0 => rfl
  | n + 1 => by rw [gNums, List.length_append, gNums_length n]; rfl
theorem gC_length (yes : Bool) (n : Nat) : (gC yes n).length = n + 5 := by
  unfold gC gC0
  simp only [List.length_append, gNums_length, List.length_cons, List.length_nil]
  omega
/-- What is so of the machine, however far it is. -/
theorem g_inv (yes : Bool) (n : Nat) (win : Int) {X : SM} {N : Nat} (h : Inv (gC yes n) (beginS 0, startF [] [] 0) N X) (hN : N ≤ 1000) (d : Int) : Inv (gC yes n) (beginS 0, startF [] [] 0) (N + 1) (gD yes n win X d).1 := (doM_good h (by omega) _ win d 0).1
theorem g_inv0 (yes : Bool) (n : Nat) : Inv (gC yes n) (beginS 0, startF [] [] 0) 0 (newX 0 0 [] []) := new_inv _ _ _ _ _
theorem gOk1_spec {yes : Bool} {n : Nat} {win : Int} (h : gOk1 yes n win = true) : (gX2 yes n win).1.saved.isSome = true ∧ (gX2 yes n win).2.length = 2 ∧ ((gX2 yes n win).2.getD 1 ⟨0, 0, 0⟩).f0 = 3 ∧ decide (((gX2 yes n win).2.getD 1 ⟨0, 0, 0⟩).f1 = 1) = yes ∧ decide ((gX2 yes n win).1.s.pc = 2) = yes := by
  unfold gOk1 at h
  simp only [Bool.and_eq_true, beq_iff_eq] at h
  obtain ⟨⟨⟨⟨a, b⟩, c⟩, d⟩, e⟩ := h
  exact ⟨a, b, c, d, e⟩
theorem gOk3_spec {yes : Bool} {n : Nat} {R : SM × List S60} (h : gOk3 yes n R = true) : R.1.saved.isSome = false ∧ R.2.length = 1 ∧ (R.2.getD 0 ⟨0, 0, 0⟩).f0 = 6 ∧ decide (R.1.s.pc = 3) = yes ∧ decide (R.1.s.pc = 2) = !yes ∧ R.1.s.regs.getD 3 0 = 0 := by
  unfold gOk3 at h
  simp only [Bool.and_eq_true, beq_iff_eq, bne_iff_ne, Bool.not_eq_true'] at h
  obtain ⟨⟨⟨⟨⟨a, b⟩, c⟩, d⟩, e⟩, f⟩ := h
  refine ⟨a, b, c, d, ?_, f⟩
  have e' : decide (R.1.s.pc = 2) ≠ yes := e
  cases yes <;> cases h : decide (R.1.s.pc = 2) <;> simp_all
theorem gRun_step {yes : Bool} {n : Nat} {win last : Int} {k : Nat} {X : SM} (h : gRun yes n win last (k + 1) X = true) : (gD yes n win X 0).1.saved.isSome = true ∧ (gD yes n win X 0).2.length = 1 ∧ gRun yes n win last k (gD yes n win X 0).1 = true := by
  rw [gRun] at h
  simp only [Bool.and_eq_true, beq_iff_eq] at h
  exact ⟨h.1.1, h.1.2, h.2⟩
end Go.Proofs.Ytiafbpbbhgpjkaa.B
