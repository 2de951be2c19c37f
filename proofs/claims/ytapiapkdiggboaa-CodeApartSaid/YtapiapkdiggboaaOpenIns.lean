/- An instruction that comes in is six whole numbers. -/
import Derived.Test.YtapiapkdiggboaaOpen
import Derived.KernelRfl
namespace Go.Proofs.Ytapiapkdiggboaa.Mine
open Go.RowKit Go.Proofs.YtapiapkdiggboaaW.PrintWords Go.Proofs.YtapiapkdiggboaaW.PrintLast Go.Proofs.YtapiapkdiggboaaW.PrintMore
set_option linter.unusedSimpArgs false
set_option linter.unusedVariables false

theorem six {α : Type} {l : List α} (h : l.length = 6) : ∃ a b c d e f, l = [a, b, c, d, e, f] := by
  match l, h with
  | [a, b, c, d, e, f], _ => exact ⟨a, b, c, d, e, f, rfl⟩
/-- A value whose cells are many is an aggregate of them. -/
theorem agg_of_cells {v : Value} {cs : List Value} (h : v.cells.toList = cs) (hn : cs.length ≠ 1) : v = .agg cs.toArray := by
  cases v
  case agg c => simp only [Value.cells] at h; rw [← h]
  all_goals (simp only [Value.cells] at h; subst h; simp at hn)

noncomputable def insFields : Array Field := (match Try.prog.underlying 25 with | some (.struct fs) => fs | _ => #[])
theorem insUnder : Try.prog.underlying 25 = some (.struct insFields) := by kernel_rfl
theorem insSize : insFields.size = 6 := by kernel_rfl
/-- A field's type, place and size, out of one closed fact. -/
theorem field_at {fs : Array Field} {i : Nat} {k : IntKind} (h : (fs[i]?).map (fun f => (Try.prog.underlying f.type, f.offset, Try.prog.cellsOf f.type)) = some (some (.int k), i, 1)) :
    ∃ f, fs[i]? = some f ∧ Try.prog.underlying f.type = some (.int k) ∧ f.offset = i ∧ Try.prog.cellsOf f.type = 1 := by
  obtain ⟨f, h1, h2⟩ := Option.map_eq_some_iff.mp h
  simp only [Prod.mk.injEq] at h2
  exact ⟨f, h1, h2.1, h2.2.1, h2.2.2⟩
theorem insEach : ∀ i, i < 6 → ∃ f, insFields[i]? = some f ∧ Try.prog.underlying f.type = some (.int .i64) ∧ f.offset = i ∧ Try.prog.cellsOf f.type = 1 := by
  intro i hi
  have h : i = 0 ∨ i = 1 ∨ i = 2 ∨ i = 3 ∨ i = 4 ∨ i = 5 := by omega
  rcases h with rfl | rfl | rfl | rfl | rfl | rfl
  · exact field_at (by kernel_rfl)
  · exact field_at (by kernel_rfl)
  · exact field_at (by kernel_rfl)
  · exact field_at (by kernel_rfl)
  · exact field_at (by kernel_rfl)
  · exact field_at (by kernel_rfl)

section
variable {H : Type} {enc : TypeId × Value → H} {w : World} {base : Nat} {spare : Nat → Bool} {held : Bool} {fuel : Nat} {cs : List Value} {x : DataW H × List MemPlace}
theorem trod_ins (h : DataW.trod enc Try.prog w base spare held fuel 25 cs = some x) : ∃ op d a b bin imm : Int, cs = [.int .i64 op, .int .i64 d, .int .i64 a, .int .i64 b, .int .i64 bin, .int .i64 imm] ∧
    (Lit.int .i64 op).wf = true ∧ (Lit.int .i64 d).wf = true ∧ (Lit.int .i64 a).wf = true ∧ (Lit.int .i64 b).wf = true ∧ (Lit.int .i64 bin).wf = true ∧ (Lit.int .i64 imm).wf = true := by
  obtain ⟨zs, h1, h2, h3⟩ := trod_ints (k := .i64) insUnder (by rw [insSize]; kernel_rfl) (fun i f hf => by
    have hi : i < 6 := by
      have := (Array.getElem?_eq_some_iff.mp hf).1
      rw [insSize] at this; exact this
    obtain ⟨g, hg, r⟩ := insEach i hi
    rw [hf] at hg
    cases hg
    exact r) h
  rw [insSize] at h2
  obtain ⟨op, d, a, b, bin, imm, rfl⟩ := six h2
  exact ⟨op, d, a, b, bin, imm, h1, h3 _ (by simp), h3 _ (by simp), h3 _ (by simp), h3 _ (by simp), h3 _ (by simp), h3 _ (by simp)⟩
theorem open_ins {v : Value} {d : DataW H} {p : List MemPlace} (h : Arg enc Try.prog w 25 v d p) : ∃ op d a b bin imm : Int, v = .agg #[.int .i64 op, .int .i64 d, .int .i64 a, .int .i64 b, .int .i64 bin, .int .i64 imm] ∧
    (Lit.int .i64 op).wf = true ∧ (Lit.int .i64 d).wf = true ∧ (Lit.int .i64 a).wf = true ∧ (Lit.int .i64 b).wf = true ∧ (Lit.int .i64 bin).wf = true ∧ (Lit.int .i64 imm).wf = true := by
  obtain ⟨fuel, hr⟩ := h.read
  obtain ⟨op, d, a, b, bin, imm, h1, r⟩ := trod_ins hr
  exact ⟨op, d, a, b, bin, imm, agg_of_cells h1 (by simp), r⟩
end
end Go.Proofs.Ytapiapkdiggboaa.Mine
