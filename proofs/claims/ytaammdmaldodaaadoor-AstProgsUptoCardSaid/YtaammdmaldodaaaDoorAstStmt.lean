/- Stmt.Text: a statement's text; lines: that of many. -/
import Derived.Test.YtaammdmaldodaaaDoorAstLinesC
namespace Go.Proofs.YtaammdmaldodaaaDoor.B
open Go.RowKit Go.Proofs.YtaammdmaldodaaaDoor.Mine Go.Proofs.YtaammdmaldodaaaDoor.Sep Go.Proofs.YtaammdmaldodaaaDoorW.PrintWords Go.Proofs.YtaammdmaldodaaaDoorW.PrintLast Go.Proofs.YtaammdmaldodaaaDoorW.PrintMore
set_option linter.unusedVariables false
set_option linter.unusedSimpArgs false
theorem rep_tabs (d : Nat) : Lib.repeatL [9] d = tabN d := by
  unfold tabN
  induction d with
  | zero => rfl
  | succ d ih => rw [List.replicate_succ, ← ih]; rfl
theorem stN1 (tb nm a b tt te : List UInt8) (x : Bool) : stN 1 tb nm a b tt te x = tb ++ [108, 101, 116, 32] ++ nm ++ [32, 61, 32] ++ a ++ [59, 10] := by
  simp [stN]
theorem stN2 (tb nm a b tt te : List UInt8) (x : Bool) : stN 2 tb nm a b tt te x = tb ++ nm ++ [32, 61, 32] ++ a ++ [59, 10] := by
  simp [stN]
theorem stN3 (tb nm a b tt te : List UInt8) (x : Bool) : stN 3 tb nm a b tt te x = tb ++ nm ++ [91] ++ a ++ [93, 32, 61, 32] ++ b ++ [59, 10] := by
  simp [stN]
theorem stN4 (tb nm a b tt te : List UInt8) : stN 4 tb nm a b tt te true = tb ++ [105, 102, 32] ++ a ++ [32, 123, 10] ++ tt ++ tb ++ [125] ++ [10] := by
  simp [stN]
theorem stN4e (tb nm a b tt te : List UInt8) : stN 4 tb nm a b tt te false = tb ++ [105, 102, 32] ++ a ++ [32, 123, 10] ++ tt ++ tb ++ [125] ++ [32, 101, 108, 115, 101, 32, 123, 10] ++ te ++ tb ++ [125] ++ [10] := by
  simp [stN]
theorem stN5 (tb nm a b tt te : List UInt8) (x : Bool) : stN 5 tb nm a b tt te x = tb ++ [119, 104, 105, 108, 101, 32] ++ a ++ [32, 123, 10] ++ tt ++ tb ++ [125, 10] := by
  simp [stN]
theorem stN6 (tb nm a b tt te : List UInt8) (x : Bool) : stN 6 tb nm a b tt te x = tb ++ [114, 101, 116, 117, 114, 110, 32] ++ a ++ [59, 10] := by
  simp [stN]
theorem at_len {es : List S31} {i : Nat} (hok : okL es) (hsz : ∀ e ∈ es, szE e ≤ MX) : ((es.map txtE).getD i [63]).length ≤ MX := by
  rw [List.getD_eq_getElem?_getD, List.getElem?_map]
  cases h : es[i]? with
  | none => simp only [Option.map_none, Option.getD_none, List.length_cons, List.length_nil]; decide
  | some e =>
    have hm := List.mem_of_getElem? h
    have h1 := txtE_len e (okL_mem hok hm)
    have h2 := hsz e hm
    simp only [Option.map_some, Option.getD_some]
    omega
theorem rep_calls (d : Nat) (hd : d + 1 ≤ MX) (w : World) : Calls Tryd.prog 31 #[.string (bs [9]), .int .i64 (d : Int)] w fun r w' => r = .returned (.string (bs (tabN d))) ∧ Below w.heap.size w w' := by
  have hm := mx_le
  have h1 : ([9] : List UInt8).length * d ≤ 140737488355328 := by
    rw [show ([9] : List UInt8).length = 1 from rfl]; omega
  have h2 : d ≤ 9223372036854775807 := by omega
  have h := repeat_at [9] d h1 h2 w
  rw [← rep_tabs]
  exact h
theorem tab_len (d : Nat) (hd : d + 1 ≤ MX) : (tabN d).length ≤ MX := by unfold tabN; rw [List.length_replicate]; omega
theorem wrap_d (d : Nat) (hd : d + 1 ≤ MX) : wrap64 ((d : Int) + 1) = ((d + 1 : Nat) : Int) := by
  have hm := mx_le
  exact w64 _ (by omega) (by omega)
theorem texts_step (k p0 p1 : Int) (nm : List UInt8) (es : List S31) (th el : List S38) (hLT : LinesC th) (hLE : LinesC el) : TextS ⟨k, ⟨p0, p1⟩, bs nm, es, th, el⟩ := by
    intro W d A4 c4 A5 c5 A6 c6 hG hok hro hC4 l4 hC5 l5 hC6 l6
    dsimp only at hC4 l4 hC5 l5 hC6 l6 ⊢
    rw [okS] at hok
    rw [roomS] at hro
    obtain ⟨hd, hnm, hsz, ⟨htt, hrt⟩, ⟨hte, hre⟩⟩ := hro
    rw [txtS]
    change nm.length ≤ MX at hnm
    change Calls _ _ _ _ fun r w' => r = .returned (.string (bs (stN k (tabN d) nm _ _ _ _ _))) ∧ _
    have ltb := tab_len d hd
    have hw := wrap_d d hd
    have HR : Aside0 (∀ w : World, Calls Tryd.prog 31 #[.string (bs [9]), .int .i64 (d : Int)] w fun r w' => r = .returned (.string (bs (tabN d))) ∧ Below w.heap.size w w') :=
      ⟨rep_calls d hd⟩
    have la := at_len (i := 0) hok.1 hsz
    have lb := at_len (i := 1) hok.1 hsz
    have H0 := fun K : Int => Aside0.mk (fun (w : World) (hb : Below W.heap.size W w) => at_calls (p0 := p0) (p1 := p1) (nm := nm) (A4 := A4) (c4 := c4) (A5 := A5) (c5 := c5) (A6 := A6) (c6 := c6) (th := th) (el := el) K 0 w (hG.below hb) (Kd.C_below hC4 hb) hok.1 hsz)
    have H1 := fun K : Int => Aside0.mk (fun (w : World) (hb : Below W.heap.size W w) => at_calls (p0 := p0) (p1 := p1) (nm := nm) (A4 := A4) (c4 := c4) (A5 := A5) (c5 := c5) (A6 := A6) (c6 := c6) (th := th) (el := el) K 1 w (hG.below hb) (Kd.C_below hC4 hb) hok.1 hsz)
    have HT := Aside0.mk (fun (w : World) (hb : Below W.heap.size W w) => hLT w (d + 1) A5 c5 (hG.below hb) hok.2.1 hrt htt (Kd.C_below hC5 hb) l5)
    have HE := Aside0.mk (fun (w : World) (hb : Below W.heap.size W w) => hLE w (d + 1) A6 c6 (hG.below hb) hok.2.2 hre hte (Kd.C_below hC6 hb) l6)
    obtain ⟨a, ha⟩ : ∃ a, a = (es.map txtE).getD 0 [63] := ⟨_, rfl⟩
    obtain ⟨b, hb_⟩ : ∃ b, b = (es.map txtE).getD 1 [63] := ⟨_, rfl⟩
    obtain ⟨tt, ht_⟩ : ∃ tt, tt = txtSs (d + 1) th := ⟨_, rfl⟩
    obtain ⟨te, he_⟩ : ∃ te, te = txtSs (d + 1) el := ⟨_, rfl⟩
    obtain ⟨tb, hb2⟩ : ∃ tb, tb = tabN d := ⟨_, rfl⟩
    simp only [← ha] at H0 la
    simp only [← hb_] at H1 lb
    simp only [← ht_] at HT htt
    simp only [← he_] at HE hte
    simp only [← hb2] at HR ltb
    rw [← ha, ← hb_, ← ht_, ← he_, ← hb2]
    obtain ⟨D, hD⟩ : ∃ D : Int, (d : Int) = D := ⟨_, rfl⟩
    obtain ⟨D1, hD1⟩ : ∃ D1 : Int, ((d + 1 : Nat) : Int) = D1 := ⟨_, rfl⟩
    have hD0 : 0 ≤ D := by rw [← hD]; exact Int.natCast_nonneg d
    rw [hD, hD1] at hw
    rw [hD1] at HT HE
    rw [hD] at HR ⊢
    clear ha hb_ ht_ he_ hb2 hD hD1 hLT hLE hC4 hC5 hC6 hok hrt hre hsz hG l4 l5 l6
    by_cases h1 : k = 1
    · subst h1; rw [stN1]; exact st_let W hD0 hw HR (H0 1) ltb hnm la
    by_cases h2 : k = 2
    · subst h2; rw [stN2]; exact st_set W hD0 hw HR (H0 2) ltb hnm la
    by_cases h3 : k = 3
    · subst h3; rw [stN3]; exact st_put W hD0 hw HR (H0 3) ltb hnm la (H1 3) lb
    by_cases h4 : k = 4
    · subst h4
      by_cases he : el.length = 0
      · have e : decide (el.length = 0) = true := decide_eq_true he
        rw [e, stN4]
        exact st_if W hD0 hw HR (H0 4) ltb hnm la HT htt ⟨he⟩
      · have e : decide (el.length = 0) = false := decide_eq_false he
        rw [e, stN4e]
        exact st_ifelse W hD0 hw HR (H0 4) ltb hnm la HT htt HE hte ⟨by omega⟩
    by_cases h5 : k = 5
    · subst h5; rw [stN5]; exact st_while W hD0 hw HR (H0 5) ltb hnm la HT htt
    by_cases h6 : k = 6
    · subst h6; rw [stN6]; exact st_return W hD0 hw HR (H0 6) ltb hnm la
    have e : stN k tb nm a b tt te (decide (el.length = 0)) = tb ++ a ++ [59, 10] := by
      unfold stN; rw [if_neg h1, if_neg h2, if_neg h3, if_neg h4, if_neg h5, if_neg h6]
    rw [e]
    exact st_other W hD0 hw HR (H0 k) ltb hnm la (by simpa using h1) (by simpa using h2) (by simpa using h3) (by simpa using h4) (by simpa using h5) (by simpa using h6)
/-- Stmt.Text: a statement's text. -/
theorem texts_calls : ∀ s : S38, TextS s
  | ⟨k, ⟨p0, p1⟩, name, es, th, el⟩ => by
    have ihT : ∀ t ∈ th, TextS t := fun t ht => texts_calls t
    have ihE : ∀ t ∈ el, TextS t := fun t he => texts_calls t
    exact texts_step k p0 p1 name.data.toList es th el (lines_all th ihT) (lines_all el ihE)
termination_by s => SizeOf.sizeOf s
decreasing_by
  · have := List.sizeOf_lt_of_mem ht
    simp only [S38.mk.sizeOf_spec]
    omega
  · have := List.sizeOf_lt_of_mem he
    simp only [S38.mk.sizeOf_spec]
    omega
theorem lines_calls (l : List S38) : LinesC l := lines_all l (fun s _ => texts_calls s)
end Go.Proofs.YtaammdmaldodaaaDoor.B
