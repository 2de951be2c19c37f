/- What a walk of (*lexer).next carries along: the lexer's state, two blocks of the call's own, and that all else stays. -/
import Derived.Test.YtfljigegjhnidaaDoorLexLaid
import Derived.Test.YtfljigegjhnidaaDoorBlank
import Derived.Test.YtfljigegjhnidaaDoorRun
namespace Go.Proofs.YtfljigegjhnidaaDoor.B
open Go.RowKit Go.Proofs.YtfljigegjhnidaaDoorW.PrintWords Go.Proofs.YtfljigegjhnidaaDoorW.PrintLast Go.Proofs.YtfljigegjhnidaaDoorW.PrintMore
set_option linter.unusedSimpArgs false
set_option linter.unusedVariables false

/-- From any world of which S holds: a walk goes on in a world without a history. -/
theorem wp_gen {P : Program} {c : Code} {Q : Exit → Act → World → Prop} {a : Act} {W : World} (S : World → Prop) (hS : S W) (h : ∀ W', S W' → c.wp P Q a W') : c.wp P Q a W := h W hS

structure NX (w0 w W : World) (g : Nat) (s : ByteArray) (i l c : Int) (b2 : Nat) (c2 : Array Value) (b4 : Nat) (c4 : Array Value) : Prop where
  st : IsS51 w0 W g s i l c
  kp : KeepBut w W g none
  bl : Below w0.heap.size w0 W
  k2 : W.heap[b2]? = some (.cells c2 34 (0, 0))
  k4 : W.heap[b4]? = some (.cells c4 34 (0, 0))
/-- What doesn't change: where the blocks are. -/
structure NS (w0 w : World) (g b2 b4 : Nat) : Prop where
  h2 : w.heap.size ≤ b2
  h4 : w.heap.size ≤ b4
  e2 : w0.heap.size ≤ b2
  e4 : w0.heap.size ≤ b4
  g2 : g ≠ b2
  g4 : g ≠ b4
  d : b2 ≠ b4
section
variable {w0 w W W' : World} {g b2 b4 : Nat} {s : ByteArray} {i l c : Int} {c2 c4 : Array Value}
theorem NX.drewN (h : NX w0 w W g s i l c b2 c2 b4 c4) (m : Nat) : NX w0 w (W.drewN m) g s i l c b2 c2 b4 c4 := ⟨h.st, h.kp, pw_below_drewN h.bl m, h.k2, h.k4⟩
theorem NX.drew (h : NX w0 w W g s i l c b2 c2 b4 c4) : NX w0 w W.drew g s i l c b2 c2 b4 c4 := ⟨h.st, h.kp, below_drew1 h.bl, h.k2, h.k4⟩
theorem NX.drawn (h : NX w0 w W g s i l c b2 c2 b4 c4) (hd : Drawn0 W W') : NX w0 w W' g s i l c b2 c2 b4 c4 := by
  obtain ⟨n, rfl⟩ := hd
  exact h.drewN n
theorem NX.put4 (hs : NS w0 w g b2 b4) (h : NX w0 w W g s i l c b2 c2 b4 c4) (j : Nat) (v : Value) : NX w0 w (W.setCell ⟨b4, j, none⟩ v) g s i l c b2 c2 b4 (c4.setIfInBounds j v) :=
  ⟨h.st.far hs.g4 v, keep_far h.kp hs.h4 v, below_set h.bl hs.e4, blk_far h.k2 hs.d v, blk_set h.k4 j v⟩
theorem NX.put2 (hs : NS w0 w g b2 b4) (h : NX w0 w W g s i l c b2 c2 b4 c4) (j : Nat) (v : Value) : NX w0 w (W.setCell ⟨b2, j, none⟩ v) g s i l c b2 (c2.setIfInBounds j v) b4 c4 :=
  ⟨h.st.far hs.g2 v, keep_far h.kp hs.h2 v, below_set h.bl hs.e2, blk_set h.k2 j v, blk_far h.k4 hs.d.symm v⟩
/-- A call that changes the state alone. -/
theorem NX.go {s' : ByteArray} {i' l' c' : Int} (hs : NS w0 w g b2 b4) (h : NX w0 w W g s i l c b2 c2 b4 c4) (hi : IsS51 w0 W' g s' i' l' c') (hb : Below w0.heap.size w0 W') (hk : KeepBut W W' g none) : NX w0 w W' g s' i' l' c' b2 c2 b4 c4 :=
  ⟨hi, h.kp.trans hk (.inl rfl), hb, KeepBut.blk hk h.k2 hs.g2.symm (by simp), KeepBut.blk hk h.k4 hs.g4.symm (by simp)⟩
theorem NX.post {e v : Ending} (h : NX w0 w W g s i l c b2 c2 b4 c4) (he : e = v) : e = v ∧ IsS51 w0 W g s i l c ∧ Below w0.heap.size w0 W ∧ KeepBut w W g none := ⟨he, h.st, h.bl, h.kp⟩
end

/-- The words that mean something; the first sign that stands at a text's head. -/
def isWord (t : ByteArray) : Bool := wordList.any fun x => x == t.toList
def firstOf (l : List (List UInt8)) (y : List UInt8) : List UInt8 := match l.find? (fun m => m.isPrefixOf y) with | some m => m | none => []
def markOf (t : ByteArray) : ByteArray := ⟨(firstOf markList t.toList).toArray⟩
theorem firstOf_step (l : List (List UInt8)) (hl : ∀ m ∈ l, m ≠ []) (m y : List UInt8) : firstOf (l ++ [m]) y = if firstOf l y = [] then (if m.isPrefixOf y = true then m else []) else firstOf l y := by
  unfold firstOf
  rw [List.find?_append]
  cases h : l.find? (fun m => m.isPrefixOf y) with
  | none =>
    simp only [Option.none_or, if_true]
    cases hm : m.isPrefixOf y <;> simp [hm]
  | some z =>
    have hz := hl z (List.mem_of_find?_eq_some h)
    simp [hz]
end Go.Proofs.YtfljigegjhnidaaDoor.B
