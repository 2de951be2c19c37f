/- Programs' texts, in plain Lean. -/
import Derived.Test.YtaammdmaldodaaaDoorAstStmt
namespace Go.Proofs.YtaammdmaldodaaaDoor.B
open Go.RowKit Go.Proofs.YtaammdmaldodaaaDoor.Mine Go.Proofs.YtaammdmaldodaaaDoor.Sep Go.Proofs.YtaammdmaldodaaaDoorW.PrintWords Go.Proofs.YtaammdmaldodaaaDoorW.PrintLast Go.Proofs.YtaammdmaldodaaaDoorW.PrintMore
set_option linter.unusedVariables false
set_option linter.unusedSimpArgs false
def holdT (h : Int) : List UInt8 := if h ≤ 0 then [118, 97, 114, 32] else if h = 1 then [112, 117, 98, 108, 105, 99, 32] else [115, 101, 99, 114, 101, 116, 32]
def gT (g : S54) : List UInt8 := holdT g.f1 ++ g.f0.data.toList ++ (if 0 < g.f2 then [91] ++ Lib.itoa g.f2 ++ [93] else []) ++ [59, 10]
def fT (f : S41) : List UInt8 := [102, 117, 110, 99, 32] ++ f.f0.data.toList ++ [40] ++ Lib.join (f.f1.map (·.data.toList)) [44, 32] ++ [41, 32, 123, 10] ++ txtSs 1 f.f2 ++ [125, 10]
def gsT (l : List S54) : List UInt8 := (l.map gT).flatten
def fsT (l : List S41) : List UInt8 := (l.map fT).flatten
theorem gs_take {l : List S54} {i : Nat} (h : i < l.length) : gsT (l.take (i + 1)) = gsT (l.take i) ++ gT l[i] := by
  unfold gsT; rw [List.take_succ_eq_append_getElem h, List.map_append, List.flatten_append]; simp
theorem fs_take {l : List S41} {i : Nat} (h : i < l.length) : fsT (l.take (i + 1)) = fsT (l.take i) ++ fT l[i] := by
  unfold fsT; rw [List.take_succ_eq_append_getElem h, List.map_append, List.flatten_append]; simp
theorem gs_take_le (l : List S54) (i : Nat) : (gsT (l.take i)).length ≤ (gsT l).length := by
  have h := congrArg List.length (show gsT (l.take i) ++ gsT (l.drop i) = gsT l from by unfold gsT; rw [← List.flatten_append, ← List.map_append, List.take_append_drop])
  rw [List.length_append] at h
  omega
theorem fs_take_le (l : List S41) (i : Nat) : (fsT (l.take i)).length ≤ (fsT l).length := by
  have h := congrArg List.length (show fsT (l.take i) ++ fsT (l.drop i) = fsT l from by unfold fsT; rw [← List.flatten_append, ← List.map_append, List.take_append_drop])
  rw [List.length_append] at h
  omega
def progT (gs : List S54) (fs : List S41) : List UInt8 := gsT gs ++ fsT fs
theorem rdG {l : List S54} {i : Nat} (h : i < l.length) : rd_T54 l (i : Int) = l[i] := by
  unfold rd_T54; rw [Int.toNat_natCast, List.getD_eq_getElem?_getD, List.getElem?_eq_getElem h]; rfl
theorem rdF {l : List S41} {i : Nat} (h : i < l.length) : rd_T41 l (i : Int) = l[i] := by
  unfold rd_T41; rw [Int.toNat_natCast, List.getD_eq_getElem?_getD, List.getElem?_eq_getElem h]; rfl
/-- What a program must be for its text to be made. -/
structure PrOk (gs : List S54) (fs : List S41) : Prop where
  len : (progT gs fs).length ≤ BX
  gok : ∀ g ∈ gs, okG g
  fok : ∀ f ∈ fs, okSs f.f2 ∧ roomSs 1 f.f2 ∧ f.f1.length ≤ 10
end Go.Proofs.YtaammdmaldodaaaDoor.B
