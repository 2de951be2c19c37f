/- Chapter 3: the variables that are laid, and strings as lists of bytes. -/
import Derived.Test.YtenkganofobioaaDoorRows
import Derived.Test.YtenkganofobioaaDoorBx1
import Derived.Test.YtenkganofobioaaDoorMine
import Derived.Test.YtenkganofobioaaDoorSep
import Derived.Lib.LaidTab
import Derived.Deep.DeepMust
import Derived.StillTailTactics
import Derived.Lib.ItoaNum
import Derived.ProofKit
import Derived.LaidMore
import Derived.OpenShut
import Derived.Stop.Joined
namespace Go.Proofs.YtenkganofobioaaDoor.B
open Go.ChangeShapes Go.WideShapes Go.ChangeAt Go.RowKit Go.Proofs.YtenkganofobioaaDoor.Mine Go.Proofs.YtenkganofobioaaDoor.Sep Go.Proofs.YtenkganofobioaaDoorW.PrintWords Go.Proofs.YtenkganofobioaaDoorW.PrintLast Go.Proofs.YtenkganofobioaaDoorW.PrintMore
set_option linter.unusedSimpArgs false
set_option linter.unusedVariables false
/-- A string of these bytes. -/
def bs (l : List UInt8) : ByteArray := ⟨l.toArray⟩
theorem bs_size (l : List UInt8) : (bs l).size = l.length := by unfold bs; simp [ByteArray.size]
theorem bs_append (a b : List UInt8) : bs a ++ bs b = bs (a ++ b) := by
  apply ByteArray.ext
  simp [bs]
theorem bs_eta (s : ByteArray) : bs s.data.toList = s := rfl
theorem bs_inj {a b : List UInt8} (h : bs a = bs b) : a = b := by
  have := congrArg (fun s : ByteArray => s.data.toList) h
  simpa [bs] using this
theorem cells_of_strs {H : Type} {enc : TypeId × Value → H} {P : Program} {w : World} {base : Nat} {sp : Nat → Bool} {held : Bool} {fuel : Nat} {t e : TypeId} {n : Nat} {cs : List Value} {zs : List (List UInt8)} {p : List MemPlace}
    (ht : P.underlying t = some (.array n e)) (he : P.underlying e = some .string) (hce : P.cellsOf e = 1) (hct : P.cellsOf t = n)
    (h : DataW.trod enc P w base sp held fuel t cs = some (.agg (zs.map fun z => .lit (.string z)), p)) : cs = zs.map fun z => Value.string (bs z) := by
  cases fuel with
  | zero => simp [DataW.trod] at h
  | succ fuel =>
    simp only [DataW.trod, ht, hce, hct, Nat.mul_one] at h
    split at h
    · rename_i hl
      obtain ⟨xs, hm, hx⟩ := Option.map_eq_some_iff.1 h
      have hxs : xs.map (·.1) = zs.map fun z => (DataW.lit (.string z) : DataW H) := by
        have := congrArg Prod.fst hx
        simpa using this
      have hxl : xs.length = n := by simpa using Lib.mapM_length hm
      have hzl : zs.length = n := by
        have := congrArg List.length hxs
        simp at this
        omega
      apply List.ext_getElem?
      intro i
      by_cases hi : i < n
      · obtain ⟨b, hb, hf⟩ := Lib.mapM_at hm i i (by simp [hi])
        obtain ⟨z, hc, rfl, _⟩ := DataW.trod_string he hf
        have h1 : cs[i]? = some (.string z) := by
          have := congrArg (·[0]?) hc
          simpa [List.getElem?_take, List.getElem?_drop] using this
        have h2 : (xs.map (·.1))[i]? = some (DataW.lit (.string z.data.toList) : DataW H) := by simp [hb]
        rw [hxs] at h2
        simp only [List.getElem?_map, Option.map_eq_some_iff, DataW.lit.injEq, Lit.string.injEq] at h2
        obtain ⟨z', hz', h3⟩ := h2
        simp [h1, hz', h3, bs_eta]
      · rw [List.getElem?_eq_none (by omega), List.getElem?_eq_none (by simp; omega)]
    · cases h
theorem w64 (x : Int) (h0 : -9223372036854775808 ≤ x) (h1 : x < 9223372036854775808) : wrap64 x = x := by unfold wrap64; omega
/-- How ops are written. -/
abbrev signList : List (List UInt8) := [[], [43], [45], [42], [47], [37], [38], [124], [94], [60, 60], [62, 62], [61, 61], [33, 61], [60], [60, 61]]
def signF (o : Int) : List UInt8 := if o < 0 ∨ 15 ≤ o then [] else signList.getD o.toNat []
abbrev PowIs (w : World) : Prop := Lib.TabIs Tryd.prog w "internal/strconv.uint64pow10" .u64 Lib.pow10Tab
theorem gPow : Tryd.prog.globalNamed "internal/strconv.uint64pow10" = some 3 := by kernel_rfl
theorem tPow : (Tryd.prog.globals[3]?).map (·.type) = some 131 := by kernel_rfl
theorem gSigns : Tryd.prog.globalNamed "palings/ast.signs" = some 0 := by kernel_rfl
theorem tSigns : (Tryd.prog.globals[0]?).map (·.type) = some 110 := by kernel_rfl
/-- A global variable holds a slice of these strings. -/
def StrsAt (w : World) (g : Nat) (l : List (List UInt8)) : Prop := ∃ (a : Addr) (cap : Nat), w.cell? ⟨g, 0, none⟩ = some (.slice (some a) l.length cap) ∧ ∀ (i : Nat) (x : List UInt8), l[i]? = some x → w.cell? (a.add i) = some (.string (bs x))
theorem StrsAt.below {w w' : World} {g : Nat} {l : List (List UInt8)} (h : StrsAt w g l) (hb : Below w.heap.size w w') : StrsAt w' g l := by
  obtain ⟨a, cap, h0, h1⟩ := h
  exact ⟨a, cap, cell_below h0 hb, fun i x hx => cell_below (h1 i x hx) hb⟩

theorem StrsAt.of_trod {H : Type} {enc : TypeId × Value → H} {P : Program} {w : World} {spare : Nat → Bool} {held : Bool} {fuel : Nat} {t e : TypeId} {cs : List Value} {ps : List MemPlace} (ht : P.underlying t = some (.slice e)) (he : P.underlying e = some .string) (hc : P.cellsOf e = 1)
    {l : List (List UInt8)} {g : Nat} (hg : ∀ i : Nat, w.cell? ⟨g, i, none⟩ = cs[i]?) (h : DataW.trod enc P w 0 spare held fuel t cs = some (.slice (l.map fun b => DataW.lit (Lit.string b)) [], ps)) : StrsAt w g l := by
  rcases DataW.trod_slice ht h with ⟨_, h2⟩ | ⟨a, len, cap, elems, rest, n, rfl, rfl, hx, hb, hlc, hcm, hlen, hel, _, _⟩
  · simp at h2
  · simp only [Prod.mk.injEq, DataW.slice.injEq] at hx
    have hll : l.length = len := by
      have := congrArg List.length hx.1.1
      rw [List.length_map, List.length_map] at this
      rw [this, hlen]
    refine ⟨a, cap, by rw [hg 0, hll]; rfl, fun i x hi => ?_⟩
    have hil : i < len := by rw [← hll]; exact (List.getElem?_eq_some_iff.mp hi).1
    have h1 : (elems.map (·.1))[i]? = some (DataW.lit (Lit.string x)) := by rw [← hx.1.1, List.getElem?_map, hi]; rfl
    rw [List.getElem?_map, Option.map_eq_some_iff] at h1
    obtain ⟨y, hy1, hy2⟩ := h1
    have h2 := hel i hil
    rw [hy1, hc, Nat.mul_one] at h2
    obtain ⟨c, hc1, hc2⟩ := Option.bind_eq_some_iff.mp h2
    obtain ⟨s, hs, hs2, _⟩ := DataW.trod_string he hc2
    rw [hs2] at hy2
    simp only [DataW.lit.injEq, Lit.string.injEq] at hy2
    subst hs
    have h3 := ChangeShapes.cell_of_cells?_one hc1
    rw [h3]
    obtain ⟨⟨s⟩⟩ := s
    simp only at hy2
    subst hy2
    rfl

abbrev wordList : List (List UInt8) := [[101, 108, 115, 101], [102, 97, 108, 115, 101], [102, 117, 110, 99], [105, 102], [108, 101, 116], [112, 117, 98, 108, 105, 99], [114, 101, 116, 117, 114, 110], [115, 101, 99, 114, 101, 116], [116, 114, 117, 101], [118, 97, 114], [119, 104, 105, 108, 101]]
abbrev markList : List (List UInt8) := [[38, 38], [124, 124], [61, 61], [33, 61], [60, 61], [62, 61], [60, 60], [62, 62], [43], [45], [42], [47], [37], [38], [124], [94], [60], [62], [61], [33], [40], [41], [123], [125], [91], [93], [44], [59]]
abbrev levelList : List (List (List UInt8)) := [[[124, 124]], [[38, 38]], [[61, 61], [33, 61], [60], [60, 61], [62], [62, 61]], [[43], [45], [124], [94]], [[42], [47], [37], [38], [60, 60], [62, 62]]]
/-- Strings in memory from an address on. -/
def StrsIn (w : World) (a : Addr) (l : List (List UInt8)) : Prop := ∀ (i : Nat) (x : List UInt8), l[i]? = some x → w.cell? (a.add i) = some (.string (bs x))
/-- A global variable holds a slice of slices of these strings. -/
def StrssAt (w : World) (g : Nat) (l : List (List (List UInt8))) : Prop := ∃ (a : Addr) (cap : Nat), w.cell? ⟨g, 0, none⟩ = some (.slice (some a) l.length cap) ∧ ∀ (i : Nat) (x : List (List UInt8)), l[i]? = some x → ∃ (b : Addr) (cb : Nat), w.cell? (a.add i) = some (.slice (some b) x.length cb) ∧ StrsIn w b x
theorem StrssAt.below {w w' : World} {g : Nat} {l : List (List (List UInt8))} (h : StrssAt w g l) (hb : Below w.heap.size w w') : StrssAt w' g l := by
  obtain ⟨a, cap, h0, h1⟩ := h
  refine ⟨a, cap, cell_below h0 hb, fun i x hx => ?_⟩
  obtain ⟨b, cb, h2, h3⟩ := h1 i x hx
  exact ⟨b, cb, cell_below h2 hb, fun j y hy => cell_below (h3 j y hy) hb⟩
theorem StrssAt.of_trod {H : Type} {enc : TypeId × Value → H} {P : Program} {w : World} {spare : Nat → Bool} {held : Bool} {fuel : Nat} {t e e2 : TypeId} {cs : List Value} {ps : List MemPlace} (ht : P.underlying t = some (.slice e)) (he : P.underlying e = some (.slice e2)) (he2 : P.underlying e2 = some .string) (hc : P.cellsOf e = 1) (hc2 : P.cellsOf e2 = 1)
    {l : List (List (List UInt8))} {g : Nat} (hne : ∀ x ∈ l, x ≠ []) (hg : ∀ i : Nat, w.cell? ⟨g, i, none⟩ = cs[i]?) (h : DataW.trod enc P w 0 spare held fuel t cs = some (.slice (l.map fun x => DataW.slice (x.map fun b => DataW.lit (Lit.string b)) []) [], ps)) : StrssAt w g l := by
  rcases DataW.trod_slice ht h with ⟨_, h2⟩ | ⟨a, len, cap, elems, rest, n, rfl, rfl, hx, hb, hlc, hcm, hlen, hel, _, _⟩
  · simp at h2
  · simp only [Prod.mk.injEq, DataW.slice.injEq] at hx
    have hll : l.length = len := by
      have := congrArg List.length hx.1.1
      rw [List.length_map, List.length_map] at this
      rw [this, hlen]
    refine ⟨a, cap, by rw [hg 0, hll]; rfl, fun i x hi => ?_⟩
    have hil : i < len := by rw [← hll]; exact (List.getElem?_eq_some_iff.mp hi).1
    have h1 : (elems.map (·.1))[i]? = some (DataW.slice (x.map fun b => DataW.lit (Lit.string b)) []) := by rw [← hx.1.1, List.getElem?_map, hi]; rfl
    rw [List.getElem?_map, Option.map_eq_some_iff] at h1
    obtain ⟨y, hy1, hy2⟩ := h1
    have h2 := hel i hil
    rw [hy1, hc, Nat.mul_one] at h2
    obtain ⟨c, hc1, hc3⟩ := Option.bind_eq_some_iff.mp h2
    have hx0 : x ≠ [] := hne x (List.mem_of_getElem? hi)
    obtain ⟨y1, y2⟩ := y
    simp only at hy2
    subst hy2
    rcases DataW.trod_slice he hc3 with ⟨_, h4⟩ | ⟨b, len2, cap2, elems2, rest2, n2, rfl, rfl, hx2, hb2, hlc2, hcm2, hlen2, hel2, _, _⟩
    · simp at h4
    · simp only [Prod.mk.injEq, DataW.slice.injEq] at hx2
      have hll2 : x.length = len2 := by
        have := congrArg List.length hx2.1.1
        rw [List.length_map, List.length_map] at this
        rw [this, hlen2]
      have h5 := ChangeShapes.cell_of_cells?_one hc1
      refine ⟨b, cap2, by rw [h5, hll2], fun j z hj => ?_⟩
      have hjl : j < len2 := by rw [← hll2]; exact (List.getElem?_eq_some_iff.mp hj).1
      have h6 : (elems2.map (·.1))[j]? = some (DataW.lit (Lit.string z)) := by rw [← hx2.1.1, List.getElem?_map, hj]; rfl
      rw [List.getElem?_map, Option.map_eq_some_iff] at h6
      obtain ⟨y3, hy3, hy4⟩ := h6
      have h7 := hel2 j hjl
      rw [hy3, hc2, Nat.mul_one] at h7
      obtain ⟨c2, hc4, hc5⟩ := Option.bind_eq_some_iff.mp h7
      obtain ⟨s, hs, hs2, _⟩ := DataW.trod_string he2 hc5
      rw [hs2] at hy4
      simp only [DataW.lit.injEq, Lit.string.injEq] at hy4
      subst hs
      rw [ChangeShapes.cell_of_cells?_one hc4, ← hy4]
      rfl
structure GL (w : World) : Prop where
  signs : ∀ (i : Nat) (x : List UInt8), signList[i]? = some x → w.cell? ⟨0, i, none⟩ = some (.string (bs x))
  pow : PowIs w
  words : StrsAt w 1 wordList
  marks : StrsAt w 2 markList
  levels : StrssAt w 5 levelList
theorem pow_below {W W' : World} (h : PowIs W) (hb : Below W.heap.size W W') : PowIs W' := by
  unfold PowIs Lib.TabIs World.var? at h ⊢
  rw [gPow] at h ⊢
  simp only [Option.bind_some] at h ⊢
  have hlt : 3 < W.heap.size := by
    rcases Nat.lt_or_ge 3 W.heap.size with h' | h'
    · exact h'
    · rw [Array.getElem?_eq_none h'] at h; cases h
  rw [hb.block 3 hlt]
  exact h
theorem GL.below {w w' : World} (h : GL w) (hb : Below w.heap.size w w') : GL w' := ⟨fun i x hx => cell_below (h.signs i x hx) hb, pow_below h.pow hb, h.words.below hb, h.marks.below hb, h.levels.below hb⟩
theorem pow_of {W : World} {cs : Array Value} {fuel : Nat} {p : List MemPlace} (hv : W.var? Tryd.prog "internal/strconv.uint64pow10" = some cs)
    (hd : DataW.trod (fun _ => ()) Tryd.prog W 0 (fun _ => true) false fuel 131 cs.toList = some (Rows.laid_internal_strconv_uint64pow10, p)) : PowIs W := by
  have h := Lib.cells_of_tab (k := .u64) (zs := Lib.pow10Tab) (n := 20) (e := 119) Tryd.underlying131 Tryd.underlying119 (by kernel_rfl) (by kernel_rfl) hd
  unfold PowIs Lib.TabIs
  rw [hv, ← h]
theorem signs_of {W : World} {cs : Array Value} {fuel : Nat} {p : List MemPlace} (hv : W.var? Tryd.prog "palings/ast.signs" = some cs)
    (hd : DataW.trod (fun _ => ()) Tryd.prog W 0 (fun _ => true) false fuel 110 cs.toList = some (Rows.laid_palings_ast_signs, p)) : ∀ (i : Nat) (x : List UInt8), signList[i]? = some x → W.cell? ⟨0, i, none⟩ = some (.string (bs x)) := by
  intro i x hx
  have h := cells_of_strs (zs := signList) (n := 15) (e := 9) Tryd.underlying110 Tryd.underlying9 (by kernel_rfl) (by kernel_rfl) hd
  rw [World.var?_cell gSigns hv i]
  have : cs[i]? = (signList.map fun z => Value.string (bs z))[i]? := by rw [← h]; simp
  rw [this, List.getElem?_map, hx]; rfl
theorem gWords : Tryd.prog.globalNamed "palings/lex.words" = some 1 := by kernel_rfl
theorem tWords : (Tryd.prog.globals[1]?).map (·.type) = some 38 := by kernel_rfl
theorem gMarks : Tryd.prog.globalNamed "palings/lex.marks" = some 2 := by kernel_rfl
theorem tMarks : (Tryd.prog.globals[2]?).map (·.type) = some 38 := by kernel_rfl
theorem gLevels : Tryd.prog.globalNamed "palings/parse.levels" = some 5 := by kernel_rfl
theorem tLevels : (Tryd.prog.globals[5]?).map (·.type) = some 146 := by kernel_rfl
theorem strs_of_var {w : World} {n : String} {g : Nat} {l : List (List UInt8)} {t : TypeId} {cs : Array Value} {fuel : Nat} {p : List MemPlace} (hg : Tryd.prog.globalNamed n = some g) (hv : w.var? Tryd.prog n = some cs) (ht : t = 38)
    (hd : DataW.trod (fun _ => ()) Tryd.prog w 0 (fun _ => true) false fuel t cs.toList = some (.slice (l.map fun b => DataW.lit (Lit.string b)) [], p)) : StrsAt w g l := by
  subst ht
  exact StrsAt.of_trod Tryd.underlying38 Tryd.underlying9 (by kernel_rfl) (fun i => by rw [World.var?_cell hg hv i]; simp) hd
theorem strss_of_var {w : World} {l : List (List (List UInt8))} {cs : Array Value} {fuel : Nat} {p : List MemPlace} (hne : ∀ x ∈ l, x ≠ []) (hv : w.var? Tryd.prog "palings/parse.levels" = some cs)
    (hd : DataW.trod (fun _ => ()) Tryd.prog w 0 (fun _ => true) false fuel 146 cs.toList = some (.slice (l.map fun x => DataW.slice (x.map fun b => DataW.lit (Lit.string b)) []) [], p)) : StrssAt w 5 l :=
  StrssAt.of_trod Tryd.underlying146 Tryd.underlying38 Tryd.underlying9 (by kernel_rfl) (by kernel_rfl) hne (fun i => by rw [World.var?_cell gLevels hv i]; simp) hd
abbrev astLaid : List (String × DataW Unit) := [("math/bits.deBruijn32tab", Rows.laid_math_bits_deBruijn32tab), ("math/bits.deBruijn64tab", Rows.laid_math_bits_deBruijn64tab), ("internal/strconv.uint64pow10", Rows.laid_internal_strconv_uint64pow10), ("palings/ast.signs", Rows.laid_palings_ast_signs), ("palings/lex.words", Rows.laid_palings_lex_words), ("palings/lex.marks", Rows.laid_palings_lex_marks), ("palings/parse.levels", Rows.laid_palings_parse_levels)]
theorem of_laid {W : World} (h : laidMetH Tryd.prog astLaid W) : GL W := by
  rw [MakeChecks.laidMetH_plain _ _ _ (by kernel_rfl)] at h
  obtain ⟨ps, ⟨g0, t0, cs0, f0, p0, q0, hg0, ht0, hv0, hd0, ⟨g1, t1, cs1, f1, p1, q1, hg1, ht1, hv1, hd1, ⟨g2, t2, cs2, f2, p2, q2, hg2, ht2, hv2, hd2, ⟨g3, t3, cs3, f3, p3, q3, hg3, ht3, hv3, hd3, ⟨g4, t4, cs4, f4, p4, q4, hg4, ht4, hv4, hd4, ⟨g5, t5, cs5, f5, p5, q5, hg5, ht5, hv5, hd5, ⟨g6, t6, cs6, f6, p6, q6, hg6, ht6, hv6, hd6, _⟩, _⟩, _⟩, _⟩, _⟩, _⟩, _⟩, _⟩ := h
  obtain rfl := Option.some.inj (tPow.symm.trans (by rw [gPow] at hg2; obtain rfl := Option.some.inj hg2; exact ht2))
  obtain rfl := Option.some.inj (tSigns.symm.trans (by rw [gSigns] at hg3; obtain rfl := Option.some.inj hg3; exact ht3))
  obtain rfl := Option.some.inj (tWords.symm.trans (by rw [gWords] at hg4; obtain rfl := Option.some.inj hg4; exact ht4))
  obtain rfl := Option.some.inj (tMarks.symm.trans (by rw [gMarks] at hg5; obtain rfl := Option.some.inj hg5; exact ht5))
  obtain rfl := Option.some.inj (tLevels.symm.trans (by rw [gLevels] at hg6; obtain rfl := Option.some.inj hg6; exact ht6))
  exact ⟨signs_of hv3 hd3, pow_of hv2 hd2, strs_of_var (l := wordList) gWords hv4 rfl hd4, strs_of_var (l := markList) gMarks hv5 rfl hd5, strss_of_var (l := levelList) (by decide) hv6 hd6⟩
section
variable {P : Program} {ops : Array Oper} {rest : List Oper} {o : Oper} {a : Act} {Q : Exit → Act → World → Prop} {w : World}
theorem gate_bin {b : BinOp} {t t' : TypeId} {x y : Operand} (_ho : o.op = .binOp b t x y t') (h : wpList P ops Q (o :: rest) a w) : wpList P ops Q (o :: rest) a w := h
/-- Strings one behind the other. -/
theorem run_cat {o : Oper} {a : Act} {t t' : TypeId} {x y : Operand} {p q : List UInt8} (ht : P.underlying t = some .string) (ho : o.op = .binOp .add t x y t') (hx : a.eval x = .string (bs p)) (hy : a.eval y = .string (bs q)) (hl : p.length + q.length ≤ 9223372036854775807) (w : World) :
    (execOp a.eval o).run P w = .ok (.value (.string (bs (p ++ q)))) w := by
  have h1 : ¬ 9223372036854775807 < (bs p).size + (bs q).size := by rw [bs_size, bs_size]; omega
  have h1' : ¬ 9223372036854775807 < (bs p ++ bs q).size := by rw [bs_append, bs_size, List.length_append]; omega
  unfold execOp
  simp only [ho, hx, hy]
  rw [← bs_append]
  go_simp
theorem ev_cat {t t' : TypeId} {x y : Operand} {N : Tmp} {p q : List UInt8} (ht : P.underlying t = some .string) (ho : o.op = .binOp .add t x y t') (hgd : o.guard = none) (hd : o.dst = some N) (hx : a.eval x = .string (bs p)) (hy : a.eval y = .string (bs q)) (hl : p.length + q.length ≤ 9223372036854775807)
    (h : wpList P ops Q rest (a.put (some N) (.string (bs (p ++ q)))) w) : wpList P ops Q (o :: rest) a w := by
  refine wpList_plain hgd fun K hK => ?_
  unfold Oper.wp
  rw [run_cat ht ho hx hy hl w]
  rw [← hd] at h
  exact hK _ _ h
end
end Go.Proofs.YtenkganofobioaaDoor.B
