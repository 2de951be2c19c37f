/- The texts of statements, in plain Lean. -/
import Derived.Test.YtaammdmaldodaaaDoorAstText
import Derived.Test.YtaammdmaldodaaaDoorAstOpen
namespace Go.Proofs.YtaammdmaldodaaaDoor.B
open Go.RowKit Go.Proofs.YtaammdmaldodaaaDoor.Mine Go.Proofs.YtaammdmaldodaaaDoor.Sep Go.Proofs.YtaammdmaldodaaaDoorW.PrintWords Go.Proofs.YtaammdmaldodaaaDoorW.PrintLast Go.Proofs.YtaammdmaldodaaaDoorW.PrintMore
set_option linter.unusedVariables false
set_option linter.unusedSimpArgs false
def tabN (d : Nat) : List UInt8 := List.replicate d 9
/-- A statement's text out of its parts' texts. -/
def stN (does : Int) (tabs nm a b th el : List UInt8) (bare : Bool) : List UInt8 :=
  if does = 1 then tabs ++ [108, 101, 116, 32] ++ nm ++ [32, 61, 32] ++ a ++ [59, 10]
  else if does = 2 then tabs ++ nm ++ [32, 61, 32] ++ a ++ [59, 10]
  else if does = 3 then tabs ++ nm ++ [91] ++ a ++ [93, 32, 61, 32] ++ b ++ [59, 10]
  else if does = 4 then tabs ++ [105, 102, 32] ++ a ++ [32, 123, 10] ++ th ++ tabs ++ [125] ++ (if bare then [] else [32, 101, 108, 115, 101, 32, 123, 10] ++ el ++ tabs ++ [125]) ++ [10]
  else if does = 5 then tabs ++ [119, 104, 105, 108, 101, 32] ++ a ++ [32, 123, 10] ++ th ++ tabs ++ [125, 10]
  else if does = 6 then tabs ++ [114, 101, 116, 117, 114, 110, 32] ++ a ++ [59, 10]
  else tabs ++ a ++ [59, 10]
mutual
/-- A statement's text, so deep. -/
def txtS (d : Nat) : S38 → List UInt8
  | ⟨does, _, nm, es, th, el⟩ => stN does (tabN d) nm.data.toList ((es.map txtE).getD 0 [63]) ((es.map txtE).getD 1 [63]) (txtSs (d + 1) th) (txtSs (d + 1) el) (decide (el.length = 0))
def txtSs (d : Nat) : List S38 → List UInt8
  | [] => []
  | s :: r => txtS d s ++ txtSs d r
end
/-- What a text may be long, where a Builder holds it. -/
def BX : Nat := 140737488355328
theorem bx_le : BX ≤ 140737488355328 := Nat.le_refl _
mutual
/-- Its parts' texts have room. -/
def roomS (d : Nat) : S38 → Prop
  | ⟨_, _, nm, es, th, el⟩ => d + 1 ≤ MX ∧ nm.data.toList.length ≤ MX ∧ (∀ e ∈ es, szE e ≤ MX) ∧ ((txtSs (d + 1) th).length ≤ BX ∧ roomSs (d + 1) th) ∧ ((txtSs (d + 1) el).length ≤ BX ∧ roomSs (d + 1) el)
def roomSs (d : Nat) : List S38 → Prop
  | [] => True
  | s :: r => roomS d s ∧ roomSs d r
end
theorem roomSs_mem {d : Nat} : ∀ {l : List S38} {s}, roomSs d l → s ∈ l → roomS d s
  | x :: r, e, h, hm => by
    rw [roomSs] at h
    rcases List.mem_cons.1 hm with rfl | hm
    · exact h.1
    · exact roomSs_mem h.2 hm
theorem txtSs_eq (d : Nat) : ∀ l, txtSs d l = (l.map (txtS d)).flatten
  | [] => by rw [txtSs]; rfl
  | s :: r => by rw [txtSs, txtSs_eq d r]; rfl
end Go.Proofs.YtaammdmaldodaaaDoor.B
