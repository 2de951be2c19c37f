/- What the card's laid variables of lexing (its words, its marks) give a walk: the slices in memory, cell by cell; and that they stay so. -/
import Derived.Test.YtfljigegjhnidaaDoorRows
import Derived.Test.YtfljigegjhnidaaDoorBx1
import Derived.Test.YtfljigegjhnidaaDoorMine
import Derived.ProofKit
import Derived.LaidMore
import Derived.OpenShut
import Derived.Stop.Joined
namespace Go.Proofs.YtfljigegjhnidaaDoor.B
open Go.ChangeShapes Go.WideShapes Go.ChangeAt Go.RowKit Go.Proofs.YtfljigegjhnidaaDoor.Mine Go.Proofs.YtfljigegjhnidaaDoorW.PrintWords Go.Proofs.YtfljigegjhnidaaDoorW.PrintLast Go.Proofs.YtfljigegjhnidaaDoorW.PrintMore
set_option linter.unusedSimpArgs false
set_option linter.unusedVariables false

/-- A global variable holds a slice of these strings. -/
def StrsAt (w : World) (g : Nat) (l : List (List UInt8)) : Prop := ∃ (a : Addr) (cap : Nat), w.cell? ⟨g, 0, none⟩ = some (.slice (some a) l.length cap) ∧ ∀ (i : Nat) (x : List UInt8), l[i]? = some x → w.cell? (a.add i) = some (.string ⟨x.toArray⟩)
theorem StrsAt.below {w w' : World} {g : Nat} {l : List (List UInt8)} (h : StrsAt w g l) (hb : Below w.heap.size w w') : StrsAt w' g l := by
  obtain ⟨a, cap, h0, h1⟩ := h
  exact ⟨a, cap, cell_below h0 hb, fun i x hx => cell_below (h1 i x hx) hb⟩

theorem StrsAt.of_trod {H : Type} {enc : TypeId × Value → H} {P : Program} {w : World} {spare : Nat → Bool} {held : Bool} {fuel : Nat} {t e : TypeId} {cs : List Value} {ps : List MemPlace} (ht : P.underlying t = some (.slice e)) (he : P.underlying e = some .string) (hc : P.cellsOf e = 1)
    {l : List (List UInt8)} {g : Nat} (hg : ∀ i : Nat, w.cell? ⟨g, i, none⟩ = cs[i]?) (h : DataW.trod enc P w 0 spare held fuel t cs = some (.slice (l.map fun b => DataW.lit (Lit.string b)) [], ps)) : StrsAt w g l := by
  rcases DataW.trod_slice ht h with ⟨_, h2⟩ | ⟨a, len, cap, elems, rest, n, rfl, rfl, hx, hb, hlc, hcm, hlen, hel, _, _⟩
  · simp at h2
  · simp only [Prod.mk.injEq, DataW.slice.injEq] at hx
    have hll : l.length = len := by
      have := congrArg List.length hx.1.1
      rw [List.length_map, List.length_map] at this
      rw [this, hlen]
    refine ⟨a, cap, by rw [hg 0, hll]; rfl, fun i x hi => ?_⟩
    have hil : i < len := by rw [← hll]; exact (List.getElem?_eq_some_iff.mp hi).1
    have h1 : (elems.map (·.1))[i]? = some (DataW.lit (Lit.string x)) := by rw [← hx.1.1, List.getElem?_map, hi]; rfl
    rw [List.getElem?_map, Option.map_eq_some_iff] at h1
    obtain ⟨y, hy1, hy2⟩ := h1
    have h2 := hel i hil
    rw [hy1, hc, Nat.mul_one] at h2
    obtain ⟨c, hc1, hc2⟩ := Option.bind_eq_some_iff.mp h2
    obtain ⟨s, hs, hs2, _⟩ := DataW.trod_string he hc2
    rw [hs2] at hy2
    simp only [DataW.lit.injEq, Lit.string.injEq] at hy2
    subst hs
    have h3 := ChangeShapes.cell_of_cells?_one hc1
    rw [h3]
    obtain ⟨⟨s⟩⟩ := s
    simp only at hy2
    subst hy2
    rfl

abbrev wordList : List (List UInt8) := [[101, 108, 115, 101], [102, 97, 108, 115, 101], [102, 117, 110, 99], [105, 102], [108, 101, 116], [112, 117, 98, 108, 105, 99], [114, 101, 116, 117, 114, 110], [115, 101, 99, 114, 101, 116], [116, 114, 117, 101], [118, 97, 114], [119, 104, 105, 108, 101]]
abbrev markList : List (List UInt8) := [[38, 38], [124, 124], [61, 61], [33, 61], [60, 61], [62, 61], [60, 60], [62, 62], [43], [45], [42], [47], [37], [38], [124], [94], [60], [62], [61], [33], [40], [41], [123], [125], [91], [93], [44], [59]]
/-- Lexing's two variables, as the program begins. -/
structure GLaid (w : World) : Prop where
  words : StrsAt w 2 wordList
  marks : StrsAt w 3 markList
theorem GLaid.below {w w' : World} (h : GLaid w) (hb : Below w.heap.size w w') : GLaid w' := ⟨h.words.below hb, h.marks.below hb⟩

abbrev lexLaid : List (String × DataW Unit) := [("palings/lex.words", Rows.laid_palings_lex_words), ("palings/lex.marks", Rows.laid_palings_lex_marks)]
theorem gWords : Tryd.prog.globalNamed "palings/lex.words" = some 2 := by kernel_rfl
theorem tWords : (Tryd.prog.globals[2]?).map (·.type) = some 38 := by kernel_rfl
theorem gMarks : Tryd.prog.globalNamed "palings/lex.marks" = some 3 := by kernel_rfl
theorem tMarks : (Tryd.prog.globals[3]?).map (·.type) = some 38 := by kernel_rfl
theorem strs_of_var {w : World} {n : String} {g : Nat} {l : List (List UInt8)} {t : TypeId} {cs : Array Value} {fuel : Nat} {p : List MemPlace} (hg : Tryd.prog.globalNamed n = some g) (hv : w.var? Tryd.prog n = some cs) (ht : t = 38)
    (hd : DataW.trod (fun _ => ()) Tryd.prog w 0 (fun _ => true) false fuel t cs.toList = some (.slice (l.map fun b => DataW.lit (Lit.string b)) [], p)) : StrsAt w g l := by
  subst ht
  exact StrsAt.of_trod Tryd.underlying38 Tryd.underlying9 (by kernel_rfl) (fun i => by rw [World.var?_cell hg hv i]; simp) hd
theorem of_laid {W : World} (h : laidMetH Tryd.prog lexLaid W) : GLaid W := by
  rw [MakeChecks.laidMetH_plain _ _ _ (by kernel_rfl)] at h
  obtain ⟨ps, ⟨g0, t0, cs0, f0, p0, q0, hg0, ht0, hv0, hd0, ⟨g1, t1, cs1, f1, p1, q1, hg1, ht1, hv1, hd1, _⟩, _⟩, _⟩ := h
  obtain rfl := Option.some.inj (tWords.symm.trans (by rw [gWords] at hg0; obtain rfl := Option.some.inj hg0; exact ht0))
  obtain rfl := Option.some.inj (tMarks.symm.trans (by rw [gMarks] at hg1; obtain rfl := Option.some.inj hg1; exact ht1))
  exact ⟨strs_of_var (l := wordList) gWords hv0 rfl hd0, strs_of_var (l := markList) gMarks hv1 rfl hd1⟩
end Go.Proofs.YtfljigegjhnidaaDoor.B
