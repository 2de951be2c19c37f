/- An image that comes in: two slices and two numbers. -/
import Derived.Test.YtkgoljbimblkhaaOpen
import Derived.Test.YtkgoljbimblkhaaBx0
import Derived.KernelRfl
namespace Go.Proofs.Ytkgoljbimblkhaa.B
open Go.RowKit Go.Proofs.Ytkgoljbimblkhaa.Mine Go.Proofs.YtkgoljbimblkhaaW.PrintWords Go.Proofs.YtkgoljbimblkhaaW.PrintLast Go.Proofs.YtkgoljbimblkhaaW.PrintMore
set_option linter.unusedSimpArgs false
set_option linter.unusedVariables false

set_option maxRecDepth 100000 in
theorem agg_of_cells {v : Value} {cs : List Value} (h : v.cells.toList = cs) (hn : cs.length ≠ 1) : v = .agg cs.toArray := by
  cases v
  case agg c => simp only [Value.cells] at h; rw [← h]
  all_goals (simp only [Value.cells] at h; subst h; simp at hn)
noncomputable def fieldsOf (t : Nat) : Array Field := (match Try.prog.underlying t with | some (.struct fs) => fs | _ => #[])
set_option maxRecDepth 100000 in
theorem imgUnder : Try.prog.underlying 25 = some (.struct (fieldsOf 25)) := by kernel_rfl
set_option maxRecDepth 100000 in
theorem arrUnder : Try.prog.underlying 60 = some (.struct (fieldsOf 60)) := by kernel_rfl
set_option maxRecDepth 100000 in
theorem insUnder : Try.prog.underlying 56 = some (.struct (fieldsOf 56)) := by kernel_rfl
set_option maxRecDepth 100000 in
theorem arrSize : (fieldsOf 60).size = 3 := by kernel_rfl
set_option maxRecDepth 100000 in
theorem insSize : (fieldsOf 56).size = 6 := by kernel_rfl
set_option maxRecDepth 100000 in
theorem field_int {fs : Array Field} {i : Nat} {k : IntKind} (h : (fs[i]?).map (fun f => (Try.prog.underlying f.type, f.offset, Try.prog.cellsOf f.type)) = some (some (.int k), i, 1)) :
    ∃ f, fs[i]? = some f ∧ Try.prog.underlying f.type = some (.int k) ∧ f.offset = i ∧ Try.prog.cellsOf f.type = 1 := by
  obtain ⟨f, h1, h2⟩ := Option.map_eq_some_iff.mp h
  simp only [Prod.mk.injEq] at h2
  exact ⟨f, h1, h2.1, h2.2.1, h2.2.2⟩
set_option maxRecDepth 100000 in
theorem field_at {fs : Array Field} {i t : Nat} (h : (fs[i]?).map (fun f => (f.type, f.offset)) = some (t, i)) : ∃ f, fs[i]? = some f ∧ f.type = t ∧ f.offset = i := by
  obtain ⟨f, h1, h2⟩ := Option.map_eq_some_iff.mp h
  simp only [Prod.mk.injEq] at h2
  exact ⟨f, h1, h2.1, h2.2⟩
set_option maxRecDepth 100000 in
theorem insEach : ∀ i, i < 6 → ∃ f, (fieldsOf 56)[i]? = some f ∧ Try.prog.underlying f.type = some (.int .i64) ∧ f.offset = i ∧ Try.prog.cellsOf f.type = 1 := by
  intro i hi
  have h : i = 0 ∨ i = 1 ∨ i = 2 ∨ i = 3 ∨ i = 4 ∨ i = 5 := by omega
  rcases h with rfl | rfl | rfl | rfl | rfl | rfl
  · exact field_int (by kernel_rfl)
  · exact field_int (by kernel_rfl)
  · exact field_int (by kernel_rfl)
  · exact field_int (by kernel_rfl)
  · exact field_int (by kernel_rfl)
  · exact field_int (by kernel_rfl)
set_option maxRecDepth 100000 in
theorem arrEach : ∀ i, i < 3 → ∃ f, (fieldsOf 60)[i]? = some f ∧ Try.prog.underlying f.type = some (.int .i64) ∧ f.offset = i ∧ Try.prog.cellsOf f.type = 1 := by
  intro i hi
  have h : i = 0 ∨ i = 1 ∨ i = 2 := by omega
  rcases h with rfl | rfl | rfl
  · exact field_int (by kernel_rfl)
  · exact field_int (by kernel_rfl)
  · exact field_int (by kernel_rfl)
set_option maxRecDepth 100000 in
theorem three {α : Type} {l : List α} (h : l.length = 3) : ∃ a b c, l = [a, b, c] := by
  match l, h with
  | [a, b, c], _ => exact ⟨a, b, c, rfl⟩
set_option maxRecDepth 100000 in
theorem six {α : Type} {l : List α} (h : l.length = 6) : ∃ a b c d e f, l = [a, b, c, d, e, f] := by
  match l, h with
  | [a, b, c, d, e, f], _ => exact ⟨a, b, c, d, e, f, rfl⟩
section
variable {H : Type} {enc : TypeId × Value → H} {w : World} {base : Nat} {spare : Nat → Bool} {held : Bool} {fuel : Nat} {cs : List Value} {x : DataW H × List MemPlace}
set_option maxRecDepth 100000 in
theorem trod_ins (h : DataW.trod enc Try.prog w base spare held fuel 56 cs = some x) : ∃ a : S56, k56.K w a cs ∧ (Lit.int .i64 a.f5).wf = true := by
  obtain ⟨zs, h1, h2, h3⟩ := trod_ints (k := .i64) insUnder (by rw [insSize]; kernel_rfl) (fun i f hf => by
    have hi : i < 6 := by
      have := (Array.getElem?_eq_some_iff.mp hf).1
      rw [insSize] at this; exact this
    obtain ⟨g, hg, r⟩ := insEach i hi
    rw [hf] at hg
    cases hg
    exact r) h
  rw [insSize] at h2
  obtain ⟨op, d, a, b, bin, imm, rfl⟩ := six h2
  subst h1
  exact ⟨⟨op, d, a, b, bin, imm⟩, k56_mk _ ⟨op, d, a, b, bin, imm⟩, h3 _ (by simp)⟩
set_option maxRecDepth 100000 in
theorem trod_arr (h : DataW.trod enc Try.prog w base spare held fuel 60 cs = some x) : ∃ a : S60, k60.K w a cs ∧ True := by
  obtain ⟨zs, h1, h2, h3⟩ := trod_ints (k := .i64) arrUnder (by rw [arrSize]; kernel_rfl) (fun i f hf => by
    have hi : i < 3 := by
      have := (Array.getElem?_eq_some_iff.mp hf).1
      rw [arrSize] at this; exact this
    obtain ⟨g, hg, r⟩ := arrEach i hi
    rw [hf] at hg
    cases hg
    exact r) h
  rw [arrSize] at h2
  obtain ⟨a, b, c, rfl⟩ := three h2
  subst h1
  exact ⟨⟨a, b, c⟩, k60_mk _ ⟨a, b, c⟩, trivial⟩
set_option maxRecDepth 100000 in
theorem trod_img (h : DataW.trod enc Try.prog w base spare held fuel 25 cs = some x) : ∃ A0 c0 l0 A1 c1 l1 st mem, cs = [.slice A0 (l0 : List S56).length c0, .slice A1 (l1 : List S60).length c1, .int .i64 st, .int .i64 mem] ∧
    l0.length ≤ c0 ∧ l1.length ≤ c1 ∧ Kd.C k56 w A0 l0.length l0 ∧ Kd.C k60 w A1 l1.length l1 ∧ (∀ a ∈ l0, (Lit.int .i64 a.f5).wf = true) ∧ (Lit.int .i64 st).wf = true ∧ (Lit.int .i64 mem).wf = true := by
  obtain ⟨xs, n, rfl, _, hlen, hx, hel⟩ := DataW.trod_struct imgUnder h
  obtain ⟨f0, g0, t0, o0⟩ := field_at (fs := fieldsOf 25) (i := 0) (t := 22) (by kernel_rfl)
  obtain ⟨f1, g1, t1, o1⟩ := field_at (fs := fieldsOf 25) (i := 1) (t := 23) (by kernel_rfl)
  obtain ⟨f2, g2, t2, o2⟩ := field_at (fs := fieldsOf 25) (i := 2) (t := 3) (by kernel_rfl)
  obtain ⟨f3, g3, t3, o3⟩ := field_at (fs := fieldsOf 25) (i := 3) (t := 3) (by kernel_rfl)
  have h0 := hel 0 f0 g0
  have h1 := hel 1 f1 g1
  have h2 := hel 2 f2 g2
  have h3 := hel 3 f3 g3
  have hs : (fieldsOf 25).size = 4 := by kernel_rfl
  have hc : Try.prog.cellsOf 25 = 4 := by kernel_rfl
  have k0 : Try.prog.cellsOf 22 = 1 := by kernel_rfl
  have k1 : Try.prog.cellsOf 23 = 1 := by kernel_rfl
  have k2 : Try.prog.cellsOf 3 = 1 := by kernel_rfl
  rw [hc] at hlen
  rw [hs] at hx
  rw [t0, o0, k0, List.getElem?_eq_getElem (by omega)] at h0
  rw [t1, o1, k1, List.getElem?_eq_getElem (by omega)] at h1
  rw [t2, o2, k2, List.getElem?_eq_getElem (by omega)] at h2
  rw [t3, o3, k2, List.getElem?_eq_getElem (by omega)] at h3
  match cs, hlen with
  | [c0, c1, c2, c3], _ =>
    obtain ⟨A0, n0, p0, l0, e0, r0, _, d0, w0, _⟩ := trod_row k56 (fun a : S56 => (Lit.int .i64 a.f5).wf = true) Try.underlying22 (by kernel_rfl) (fun fuel cs x h => trod_ins h) h0
    obtain ⟨A1, n1, p1, l1, e1, r1, _, d1, w1, _⟩ := trod_row k60 (fun _ => True) Try.underlying23 (by kernel_rfl) (fun fuel cs x h => trod_arr h) h1
    obtain ⟨st, e2, _, w2⟩ := DataW.trod_int Try.underlying3 h2
    obtain ⟨mem, e3, _, w3⟩ := DataW.trod_int Try.underlying3 h3
    have m0 : l0.length = n0 := d0.1
    have m1 : l1.length = n1 := d1.1
    subst m0
    subst m1
    have E0 : c0 = .slice A0 l0.length p0 := by simpa using e0
    have E1 : c1 = .slice A1 l1.length p1 := by simpa using e1
    have E2 : c2 = .int .i64 st := by simpa using e2
    have E3 : c3 = .int .i64 mem := by simpa using e3
    subst E0
    subst E1
    subst E2
    subst E3
    exact ⟨A0, p0, l0, A1, p1, l1, st, mem, rfl, r0, r1, d0, d1, w0, w2, w3⟩
set_option maxRecDepth 100000 in
theorem open_img {v : Value} {d : DataW H} {p : List MemPlace} (h : Arg enc Try.prog w 25 v d p) : ∃ A0 c0 l0 A1 c1 l1 st mem, v = .agg #[.slice A0 (l0 : List S56).length c0, .slice A1 (l1 : List S60).length c1, .int .i64 st, .int .i64 mem] ∧
    l0.length ≤ c0 ∧ l1.length ≤ c1 ∧ Kd.C k56 w A0 l0.length l0 ∧ Kd.C k60 w A1 l1.length l1 ∧ (∀ a ∈ l0, (Lit.int .i64 a.f5).wf = true) ∧ (Lit.int .i64 st).wf = true ∧ (Lit.int .i64 mem).wf = true := by
  obtain ⟨fuel, hr⟩ := h.read
  obtain ⟨A0, c0, l0, A1, c1, l1, st, mem, h1, r⟩ := trod_img hr
  exact ⟨A0, c0, l0, A1, c1, l1, st, mem, agg_of_cells h1 (by simp), r⟩
end
end Go.Proofs.Ytkgoljbimblkhaa.B
