/- Inputs that come in: words, and rows of words. -/
import Derived.Test.YtkgoljbimblkhaaOpenImg
import Derived.Test.YtkgoljbimblkhaaMachEq
namespace Go.Proofs.Ytkgoljbimblkhaa.B
open Go.RowKit Go.Proofs.Ytkgoljbimblkhaa.Mine Go.Proofs.Ytkgoljbimblkhaa.Sep Go.Proofs.YtkgoljbimblkhaaW.PrintWords Go.Proofs.YtkgoljbimblkhaaW.PrintLast Go.Proofs.YtkgoljbimblkhaaW.PrintMore
set_option linter.unusedVariables false
set_option linter.unusedSimpArgs false
section
variable {H : Type} {enc : TypeId × Value → H} {w : World} {base : Nat} {spare : Nat → Bool} {held : Bool} {fuel : Nat} {cs : List Value} {x : DataW H × List MemPlace}
set_option maxRecDepth 100000 in
theorem trod_int64s (h : DataW.trod enc Try.prog w base spare held fuel 43 cs = some x) : ∃ l : List Int, (Kd.slice 2 (Kd.int .i64)).K w l cs ∧ True := by
  obtain ⟨A, n, cap, xs, rfl, h1, _, h2, _, _⟩ := trod_row (Kd.int .i64) (fun _ => True) Try.underlying43 (by kernel_rfl) (fun fuel cs x h => by
    obtain ⟨z, hz, _, _⟩ := DataW.trod_int Try.underlying2 h
    exact ⟨z, hz, trivial⟩) h
  have e : xs.length = n := h2.1
  subst e
  exact ⟨xs, ⟨A, cap, rfl, h1, h2⟩, trivial⟩
set_option maxRecDepth 100000 in
theorem open_words {v : Value} {d : DataW H} {p : List MemPlace} (h : Arg enc Try.prog w 43 v d p) : ∃ A c, ∃ l : List Int, v = .slice A l.length c ∧ l.length ≤ c ∧ Kd.C (Kd.int .i64) w A l.length l := by
  obtain ⟨fuel, hr⟩ := h.read
  obtain ⟨l, ⟨A, c, hcs, hl, hC⟩, _⟩ := trod_int64s hr
  obtain ⟨b, hok⟩ := h.ok
  obtain ⟨a', b', c', rfl⟩ := Go.WideShapes.okWide_slice Try.underlying43 hok
  simp only [Value.cells] at hcs
  cases hcs
  exact ⟨_, _, l, rfl, hl, hC⟩
set_option maxRecDepth 100000 in
theorem open_rows {v : Value} {d : DataW H} {p : List MemPlace} (h : Arg enc Try.prog w 26 v d p) : ∃ A c, ∃ l : List (List Int), v = .slice A l.length c ∧ l.length ≤ c ∧ Kd.C (Kd.slice 2 (Kd.int .i64)) w A l.length l := by
  obtain ⟨fuel, hr⟩ := h.read
  obtain ⟨A, n, cap, xs, hcs, h1, _, h2, _, _⟩ := trod_row (Kd.slice 2 (Kd.int .i64)) (fun _ => True) Try.underlying26 (by kernel_rfl) (fun fuel cs x h => trod_int64s h) hr
  have e : xs.length = n := h2.1
  subst e
  obtain ⟨b, hok⟩ := h.ok
  obtain ⟨a', b', c', rfl⟩ := Go.WideShapes.okWide_slice Try.underlying26 hok
  simp only [Value.cells] at hcs
  cases hcs
  exact ⟨_, _, xs, rfl, h1, h2⟩
end
end Go.Proofs.Ytkgoljbimblkhaa.B
