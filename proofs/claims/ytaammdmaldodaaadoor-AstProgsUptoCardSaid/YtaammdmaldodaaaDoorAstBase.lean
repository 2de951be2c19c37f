/- Chapter 3: the variables that are laid, and strings as lists of bytes. -/
import Derived.Test.YtaammdmaldodaaaDoorRows
import Derived.Test.YtaammdmaldodaaaDoorBx1
import Derived.Test.YtaammdmaldodaaaDoorMine
import Derived.Test.YtaammdmaldodaaaDoorSep
import Derived.Lib.LaidTab
import Derived.Deep.DeepMust
import Derived.StillTailTactics
import Derived.Lib.ItoaNum
import Derived.ProofKit
import Derived.LaidMore
import Derived.OpenShut
import Derived.Stop.Joined
namespace Go.Proofs.YtaammdmaldodaaaDoor.B
open Go.ChangeShapes Go.WideShapes Go.ChangeAt Go.RowKit Go.Proofs.YtaammdmaldodaaaDoor.Mine Go.Proofs.YtaammdmaldodaaaDoor.Sep Go.Proofs.YtaammdmaldodaaaDoorW.PrintWords Go.Proofs.YtaammdmaldodaaaDoorW.PrintLast Go.Proofs.YtaammdmaldodaaaDoorW.PrintMore
set_option linter.unusedSimpArgs false
set_option linter.unusedVariables false
/-- A string of these bytes. -/
def bs (l : List UInt8) : ByteArray := ⟨l.toArray⟩
theorem bs_size (l : List UInt8) : (bs l).size = l.length := by unfold bs; simp [ByteArray.size]
theorem bs_append (a b : List UInt8) : bs a ++ bs b = bs (a ++ b) := by
  apply ByteArray.ext
  simp [bs]
theorem bs_eta (s : ByteArray) : bs s.data.toList = s := rfl
theorem bs_inj {a b : List UInt8} (h : bs a = bs b) : a = b := by
  have := congrArg (fun s : ByteArray => s.data.toList) h
  simpa [bs] using this
theorem cells_of_strs {H : Type} {enc : TypeId × Value → H} {P : Program} {w : World} {base : Nat} {sp : Nat → Bool} {held : Bool} {fuel : Nat} {t e : TypeId} {n : Nat} {cs : List Value} {zs : List (List UInt8)} {p : List MemPlace}
    (ht : P.underlying t = some (.array n e)) (he : P.underlying e = some .string) (hce : P.cellsOf e = 1) (hct : P.cellsOf t = n)
    (h : DataW.trod enc P w base sp held fuel t cs = some (.agg (zs.map fun z => .lit (.string z)), p)) : cs = zs.map fun z => Value.string (bs z) := by
  cases fuel with
  | zero => simp [DataW.trod] at h
  | succ fuel =>
    simp only [DataW.trod, ht, hce, hct, Nat.mul_one] at h
    split at h
    · rename_i hl
      obtain ⟨xs, hm, hx⟩ := Option.map_eq_some_iff.1 h
      have hxs : xs.map (·.1) = zs.map fun z => (DataW.lit (.string z) : DataW H) := by
        have := congrArg Prod.fst hx
        simpa using this
      have hxl : xs.length = n := by simpa using Lib.mapM_length hm
      have hzl : zs.length = n := by
        have := congrArg List.length hxs
        simp at this
        omega
      apply List.ext_getElem?
      intro i
      by_cases hi : i < n
      · obtain ⟨b, hb, hf⟩ := Lib.mapM_at hm i i (by simp [hi])
        obtain ⟨z, hc, rfl, _⟩ := DataW.trod_string he hf
        have h1 : cs[i]? = some (.string z) := by
          have := congrArg (·[0]?) hc
          simpa [List.getElem?_take, List.getElem?_drop] using this
        have h2 : (xs.map (·.1))[i]? = some (DataW.lit (.string z.data.toList) : DataW H) := by simp [hb]
        rw [hxs] at h2
        simp only [List.getElem?_map, Option.map_eq_some_iff, DataW.lit.injEq, Lit.string.injEq] at h2
        obtain ⟨z', hz', h3⟩ := h2
        simp [h1, hz', h3, bs_eta]
      · rw [List.getElem?_eq_none (by omega), List.getElem?_eq_none (by simp; omega)]
    · cases h
theorem w64 (x : Int) (h0 : -9223372036854775808 ≤ x) (h1 : x < 9223372036854775808) : wrap64 x = x := by unfold wrap64; omega
/-- How ops are written. -/
abbrev signList : List (List UInt8) := [[], [43], [45], [42], [47], [37], [38], [124], [94], [60, 60], [62, 62], [61, 61], [33, 61], [60], [60, 61]]
def signF (o : Int) : List UInt8 := if o < 0 ∨ 15 ≤ o then [] else signList.getD o.toNat []
abbrev PowIs (w : World) : Prop := Lib.TabIs Tryd.prog w "internal/strconv.uint64pow10" .u64 Lib.pow10Tab
theorem gPow : Tryd.prog.globalNamed "internal/strconv.uint64pow10" = some 1 := by kernel_rfl
theorem tPow : (Tryd.prog.globals[1]?).map (·.type) = some 103 := by kernel_rfl
theorem gSigns : Tryd.prog.globalNamed "palings/ast.signs" = some 0 := by kernel_rfl
theorem tSigns : (Tryd.prog.globals[0]?).map (·.type) = some 57 := by kernel_rfl
structure GL (w : World) : Prop where
  signs : ∀ (i : Nat) (x : List UInt8), signList[i]? = some x → w.cell? ⟨0, i, none⟩ = some (.string (bs x))
  pow : PowIs w
theorem pow_below {W W' : World} (h : PowIs W) (hb : Below W.heap.size W W') : PowIs W' := by
  unfold PowIs Lib.TabIs World.var? at h ⊢
  rw [gPow] at h ⊢
  simp only [Option.bind_some] at h ⊢
  have hlt : 1 < W.heap.size := by
    rcases Nat.lt_or_ge 1 W.heap.size with h' | h'
    · exact h'
    · rw [Array.getElem?_eq_none h'] at h; cases h
  rw [hb.block 1 hlt]
  exact h
theorem GL.below {w w' : World} (h : GL w) (hb : Below w.heap.size w w') : GL w' := ⟨fun i x hx => cell_below (h.signs i x hx) hb, pow_below h.pow hb⟩
theorem pow_of {W : World} {cs : Array Value} {fuel : Nat} {p : List MemPlace} (hv : W.var? Tryd.prog "internal/strconv.uint64pow10" = some cs)
    (hd : DataW.trod (fun _ => ()) Tryd.prog W 0 (fun _ => true) false fuel 103 cs.toList = some (Rows.laid_internal_strconv_uint64pow10, p)) : PowIs W := by
  have h := Lib.cells_of_tab (k := .u64) (zs := Lib.pow10Tab) (n := 20) (e := 90) Tryd.underlying103 Tryd.underlying90 (by kernel_rfl) (by kernel_rfl) hd
  unfold PowIs Lib.TabIs
  rw [hv, ← h]
theorem signs_of {W : World} {cs : Array Value} {fuel : Nat} {p : List MemPlace} (hv : W.var? Tryd.prog "palings/ast.signs" = some cs)
    (hd : DataW.trod (fun _ => ()) Tryd.prog W 0 (fun _ => true) false fuel 57 cs.toList = some (Rows.laid_palings_ast_signs, p)) : ∀ (i : Nat) (x : List UInt8), signList[i]? = some x → W.cell? ⟨0, i, none⟩ = some (.string (bs x)) := by
  intro i x hx
  have h := cells_of_strs (zs := signList) (n := 15) (e := 9) Tryd.underlying57 Tryd.underlying9 (by kernel_rfl) (by kernel_rfl) hd
  rw [World.var?_cell gSigns hv i]
  have : cs[i]? = (signList.map fun z => Value.string (bs z))[i]? := by rw [← h]; simp
  rw [this, List.getElem?_map, hx]; rfl
abbrev astLaid : List (String × DataW Unit) := [("math/bits.deBruijn32tab", Rows.laid_math_bits_deBruijn32tab), ("math/bits.deBruijn64tab", Rows.laid_math_bits_deBruijn64tab), ("internal/strconv.uint64pow10", Rows.laid_internal_strconv_uint64pow10), ("palings/ast.signs", Rows.laid_palings_ast_signs)]
theorem of_laid {W : World} (h : laidMetH Tryd.prog astLaid W) : GL W := by
  rw [MakeChecks.laidMetH_plain _ _ _ (by kernel_rfl)] at h
  obtain ⟨ps, ⟨g0, t0, cs0, f0, p0, q0, hg0, ht0, hv0, hd0, ⟨g1, t1, cs1, f1, p1, q1, hg1, ht1, hv1, hd1, ⟨g2, t2, cs2, f2, p2, q2, hg2, ht2, hv2, hd2, ⟨g3, t3, cs3, f3, p3, q3, hg3, ht3, hv3, hd3, _⟩, _⟩, _⟩, _⟩, _⟩ := h
  obtain rfl := Option.some.inj (tPow.symm.trans (by rw [gPow] at hg2; obtain rfl := Option.some.inj hg2; exact ht2))
  obtain rfl := Option.some.inj (tSigns.symm.trans (by rw [gSigns] at hg3; obtain rfl := Option.some.inj hg3; exact ht3))
  exact ⟨signs_of hv3 hd3, pow_of hv2 hd2⟩
section
variable {P : Program} {ops : Array Oper} {rest : List Oper} {o : Oper} {a : Act} {Q : Exit → Act → World → Prop} {w : World}
theorem gate_bin {b : BinOp} {t t' : TypeId} {x y : Operand} (_ho : o.op = .binOp b t x y t') (h : wpList P ops Q (o :: rest) a w) : wpList P ops Q (o :: rest) a w := h
/-- Strings one behind the other. -/
theorem run_cat {o : Oper} {a : Act} {t t' : TypeId} {x y : Operand} {p q : List UInt8} (ht : P.underlying t = some .string) (ho : o.op = .binOp .add t x y t') (hx : a.eval x = .string (bs p)) (hy : a.eval y = .string (bs q)) (hl : p.length + q.length ≤ 9223372036854775807) (w : World) :
    (execOp a.eval o).run P w = .ok (.value (.string (bs (p ++ q)))) w := by
  have h1 : ¬ 9223372036854775807 < (bs p).size + (bs q).size := by rw [bs_size, bs_size]; omega
  have h1' : ¬ 9223372036854775807 < (bs p ++ bs q).size := by rw [bs_append, bs_size, List.length_append]; omega
  unfold execOp
  simp only [ho, hx, hy]
  rw [← bs_append]
  go_simp
theorem ev_cat {t t' : TypeId} {x y : Operand} {N : Tmp} {p q : List UInt8} (ht : P.underlying t = some .string) (ho : o.op = .binOp .add t x y t') (hgd : o.guard = none) (hd : o.dst = some N) (hx : a.eval x = .string (bs p)) (hy : a.eval y = .string (bs q)) (hl : p.length + q.length ≤ 9223372036854775807)
    (h : wpList P ops Q rest (a.put (some N) (.string (bs (p ++ q)))) w) : wpList P ops Q (o :: rest) a w := by
  refine wpList_plain hgd fun K hK => ?_
  unfold Oper.wp
  rw [run_cat ht ho hx hy hl w]
  rw [← hd] at h
  exact hK _ _ h
end
end Go.Proofs.YtaammdmaldodaaaDoor.B
