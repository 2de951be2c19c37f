/- The machine that runs ahead: what it knows. -/
import Derived.Test.YtkgoljbimblkhaaSpecA
namespace Go.Proofs.Ytkgoljbimblkhaa.B
open Go.RowKit Go.Proofs.Ytkgoljbimblkhaa.Mine Go.Proofs.Ytkgoljbimblkhaa.Sep Go.Proofs.YtkgoljbimblkhaaW.PrintWords Go.Proofs.YtkgoljbimblkhaaW.PrintLast Go.Proofs.YtkgoljbimblkhaaW.PrintMore
set_option linter.unusedVariables false
set_option linter.unusedSimpArgs false
/-- Words are put into memory, one behind the other. -/
def wrs : List Int → List (Int × Int) → List Int
  | m, [] => m
  | m, x :: r => wrs (wWr m x.1 x.2).1 r
theorem wrs_append : ∀ (m : List Int) (a b : List (Int × Int)), wrs m (a ++ b) = wrs (wrs m a) b
  | m, [], b => rfl
  | m, x :: r, b => by rw [List.cons_append, wrs, wrs, wrs_append]
theorem wrs_length : ∀ (m : List Int) (b : List (Int × Int)), (wrs m b).length = m.length
  | m, [] => rfl
  | m, x :: r => by
    rw [wrs, wrs_length]
    unfold wWr
    split <;> simp
theorem cmt_all : ∀ (m : List Int) (b : List (Int × Int)), cmt 0 m b = (wrs m b, [])
  | m, [] => rfl
  | m, x :: r => by rw [cmt, if_pos (by omega), wrs, cmt_all]
def kwnS (X : SM) : St := match X.saved with
  | none => X.s
  | some p => p.1
def kwnB (X : SM) : List (Int × Int) := match X.saved with
  | none => X.buf
  | some p => p.2
def kwnM (X : SM) : List Int := wrs X.mem (kwnB X)
end Go.Proofs.Ytkgoljbimblkhaa.B
