/- ImageStarts: memory at the beginning, and the arrays' words in it, for every image and every input. -/
import Derived.Test.YteabbcnoamhofaaOpenImg
import Derived.Test.YteabbcnoamhofaaStartsW
namespace Go.Proofs.Yteabbcnoamhofaa.B
open Go.RowKit Go.Proofs.Yteabbcnoamhofaa.Mine Go.Proofs.Yteabbcnoamhofaa.Sep Go.Proofs.YteabbcnoamhofaaW.PrintWords Go.Proofs.YteabbcnoamhofaaW.PrintLast Go.Proofs.YteabbcnoamhofaaW.PrintMore
set_option linter.unusedVariables false
set_option linter.unusedSimpArgs false
section
variable {H : Type} {enc : TypeId × Value → H} {w : World} {base : Nat} {spare : Nat → Bool} {held : Bool} {fuel : Nat} {cs : List Value} {x : DataW H × List MemPlace}
theorem trod_int64s (h : DataW.trod enc Try.prog w base spare held fuel 37 cs = some x) : ∃ l : List Int, (Kd.slice 2 (Kd.int .i64)).K w l cs ∧ True := by
  obtain ⟨A, n, cap, xs, rfl, h1, _, h2, _, _⟩ := trod_row (Kd.int .i64) (fun _ => True) Try.underlying37 (by kernel_rfl) (fun fuel cs x h => by
    obtain ⟨z, hz, _, _⟩ := DataW.trod_int Try.underlying2 h
    exact ⟨z, hz, trivial⟩) h
  have e : xs.length = n := h2.1
  subst e
  exact ⟨xs, ⟨A, cap, rfl, h1, h2⟩, trivial⟩
theorem open_words {v : Value} {d : DataW H} {p : List MemPlace} (h : Arg enc Try.prog w 37 v d p) : ∃ A c, ∃ l : List Int, v = .slice A l.length c ∧ l.length ≤ c ∧ Kd.C (Kd.int .i64) w A l.length l := by
  obtain ⟨fuel, hr⟩ := h.read
  obtain ⟨l, ⟨A, c, hcs, hl, hC⟩, _⟩ := trod_int64s hr
  obtain ⟨b, hok⟩ := h.ok
  obtain ⟨a', b', c', rfl⟩ := Go.WideShapes.okWide_slice Try.underlying37 hok
  simp only [Value.cells] at hcs
  cases hcs
  exact ⟨_, _, l, rfl, hl, hC⟩
theorem open_rows {v : Value} {d : DataW H} {p : List MemPlace} (h : Arg enc Try.prog w 35 v d p) : ∃ A c, ∃ l : List (List Int), v = .slice A l.length c ∧ l.length ≤ c ∧ Kd.C (Kd.slice 2 (Kd.int .i64)) w A l.length l := by
  obtain ⟨fuel, hr⟩ := h.read
  obtain ⟨A, n, cap, xs, hcs, h1, _, h2, _, _⟩ := trod_row (Kd.slice 2 (Kd.int .i64)) (fun _ => True) Try.underlying35 (by kernel_rfl) (fun fuel cs x h => trod_int64s h) hr
  have e : xs.length = n := h2.1
  subst e
  obtain ⟨b, hok⟩ := h.ok
  obtain ⟨a', b', c', rfl⟩ := Go.WideShapes.okWide_slice Try.underlying35 hok
  simp only [Value.cells] at hcs
  cases hcs
  exact ⟨_, _, xs, rfl, h1, h2⟩
end
theorem starts_walk {H : Type} {enc : TypeId × Value → H} {d d1 : DataW H} {p p1 : List MemPlace} (v v1 : Value) (W : World) (h : Arg enc Try.prog W 30 v d p) (h1 : Arg enc Try.prog W 35 v1 d1 p1) :
    Calls Try.prog 4 #[v, v1] W fun e w' => e = .returned (.bool true) ∧ Below W.heap.size W w' := by
  obtain ⟨Ac, cc, code, Aa, ca, arrs, st, me, rfl, g0, g1, hC, hA, _⟩ := open_img h
  obtain ⟨Ai, ci, ins, rfl, g2, hI⟩ := open_rows h1
  obtain ⟨t, ht, hx⟩ := few18_total code arrs st me
  cases t with
  | false => exact starts_few W hC g0 hA g1 hI g2 ht
  | true =>
    obtain ⟨l0, l1⟩ := hx rfl
    obtain ⟨r, hr, hy⟩ := r18_total code arrs st me (by omega) (by omega) 1000 (by omega)
    cases r with
    | false => exact starts_right W hC g0 hA g1 hI g2 ht hr
    | true =>
      by_cases h2 : 20 < (ins.length : Int)
      · exact starts_long W hC g0 hA g1 hI g2 ht hr (decide_eq_true h2)
      · by_cases h3 : 20000 < me
        · exact starts_big W hC g0 hA g1 hI g2 ht hr (decide_eq_false h2) (decide_eq_true h3)
        · exact starts_main W hC g0 hA g1 hI g2 ht hr (hy rfl) (decide_eq_false h2) (decide_eq_false h3)
end Go.Proofs.Yteabbcnoamhofaa.B
