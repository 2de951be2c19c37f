/- What the card's laid variable gives the walk of WordKinds, and the law for every input. -/
import Derived.Test.YtifonhhdfoefhaaDoorRows
import Derived.Test.YtifonhhdfoefhaaDoorKinds
import Derived.ProofKit
import Derived.LaidMore
import Derived.OpenShut
import Derived.Stop.Joined
namespace Go.Proofs.YtifonhhdfoefhaaDoor.Kinds
open Go.ChangeShapes Go.WideShapes Go.ChangeAt Go.RowKit Go.Proofs.YtifonhhdfoefhaaDoor.PWordKinds Go.Proofs.YtifonhhdfoefhaaDoor.Mine Go.Proofs.YtifonhhdfoefhaaDoorW.PrintWords Go.Proofs.YtifonhhdfoefhaaDoorW.PrintLast Go.Proofs.YtifonhhdfoefhaaDoorW.PrintMore
set_option linter.unusedSimpArgs false
set_option linter.unusedVariables false

theorem cells_strs {H : Type} {enc : TypeId × Value → H} {P : Program} {w : World} {base : Nat} {spare : Nat → Bool} {held : Bool} {fuel : Nat} {t e : TypeId} {n : Nat} {cs : List Value} {ps : List MemPlace} (ht : P.underlying t = some (.array n e)) (he : P.underlying e = some .string) (hc : P.cellsOf e = 1)
    {l : List (List UInt8)} (h : DataW.trod enc P w base spare held fuel t cs = some (.agg (l.map fun b => DataW.lit (Lit.string b)), ps)) : ∀ (i : Nat) (b : List UInt8), l[i]? = some b → cs[i]? = some (Value.string ⟨b.toArray⟩) := by
  intro i b hb
  obtain ⟨xs, m, rfl, hx, hlen, hn, hel⟩ := DataW.trod_array ht h
  simp only [Prod.mk.injEq, DataW.agg.injEq] at hx
  have h1 : (xs.map (·.1))[i]? = some (DataW.lit (Lit.string b)) := by rw [← hx.1, List.getElem?_map, hb]; rfl
  rw [List.getElem?_map, Option.map_eq_some_iff] at h1
  obtain ⟨x, hx1, hx2⟩ := h1
  have hi : i < n := by
    have := (List.getElem?_eq_some_iff.mp hx1).1; omega
  have h2 := hel i hi
  rw [hx1, hc, Nat.mul_one] at h2
  obtain ⟨s, hs, hs2, _⟩ := DataW.trod_string he h2
  rw [hs2] at hx2
  simp only [DataW.lit.injEq, Lit.string.injEq] at hx2
  have h3 : ((cs.drop i).take 1)[0]? = some (.string s) := by rw [hs]; rfl
  rw [List.getElem?_take, if_pos (by decide), List.getElem?_drop, Nat.add_zero] at h3
  rw [h3]
  subst hx2
  rfl

theorem gNames : Tryd.prog.globalNamed "palings/word.names" = some 0 := by kernel_rfl
theorem tNames : (Tryd.prog.globals[0]?).map (·.type) = some 31 := by kernel_rfl
def nameList : List (List UInt8) := [[], [97, 100, 100], [115, 117, 98], [109, 117, 108], [100, 105, 118], [109, 111, 100], [97, 110, 100], [111, 114], [120, 111, 114], [115, 104, 108], [115, 104, 114], [101, 113], [110, 101], [108, 116], [108, 101], [98, 101, 108, 111, 119]]
abbrev laid : List (String × DataW Unit) := [("palings/word.names", Rows.laid_palings_word_names)]

theorem of_laid {W : World} (h : laidMetH Tryd.prog laid W) : ∀ (i : Nat) (b : List UInt8), nameList[i]? = some b → W.cell? ⟨0, i, none⟩ = some (Value.string ⟨b.toArray⟩) := by
  rw [MakeChecks.laidMetH_plain _ _ _ (by kernel_rfl)] at h
  obtain ⟨ps, ⟨g0, t0, cs0, f0, p0, q0, hg0, ht0, hv0, hd0, _⟩, _, _⟩ := h
  obtain rfl := Option.some.inj (gNames.symm.trans hg0)
  obtain rfl := Option.some.inj (tNames.symm.trans ht0)
  intro i b hb
  have h1 := cells_strs (l := nameList) (n := 16) Tryd.underlying31 Tryd.underlying9 (by kernel_rfl) hd0 i b hb
  have h2 := World.var?_cell hg0 hv0 i
  rw [h2]
  simpa using h1

theorem word_bounds {a : Int} (h : (Lit.int .i64 a).wf = true) : -9223372036854775808 ≤ a ∧ a ≤ 9223372036854775807 := by
  simp [Lit.wf, IntKind.min, IntKind.max, IntKind.signed, IntKind.bits] at h; omega

theorem zero_or (b : Int) : b = 0 ∨ (b != 0) = true := by
  by_cases h : b = 0
  · exact .inl h
  · exact .inr (by simpa using h)

/-- an op beyond the last one tells nothing -/
theorem unknown_do (o a b : Int) (h : o < 1 ∨ 15 < o) : word_Do.f 20 o a b = some (0, false) := by
  have n : ∀ c : Int, 1 ≤ c → c ≤ 15 → ¬ o = c := by intro c h0 h1; omega
  unfold word_Do.f
  rw [if_neg (n 1 (by decide) (by decide)), if_neg (n 2 (by decide) (by decide)), if_neg (n 3 (by decide) (by decide)), if_neg (n 4 (by decide) (by decide))]
  have e5 : (o == 5) = false := by simpa using n 5 (by decide) (by decide)
  simp only [word_Do.j0, e5, Bool.false_eq_true, if_false]
  rw [if_neg (n 6 (by decide) (by decide)), if_neg (n 7 (by decide) (by decide)), if_neg (n 8 (by decide) (by decide)), if_neg (n 9 (by decide) (by decide)), if_neg (n 10 (by decide) (by decide)), if_neg (n 11 (by decide) (by decide)), if_neg (n 12 (by decide) (by decide)), if_neg (n 13 (by decide) (by decide)), if_neg (n 14 (by decide) (by decide)), if_neg (n 15 (by decide) (by decide))]

theorem wbool (b : Bool) : word_Bool.f b = some (if b then 1 else 0) := by cases b <;> rfl
theorem count_pos (b : Int) : 0 ≤ Go.bits .and .u64 (IntKind.u64.wrap b) 63 := by
  show 0 ≤ IntKind.u64.wrap _
  simp [IntKind.wrap, IntKind.bits, IntKind.signed]; omega
theorem divide_ok (o a b : Int) (hb : b ≠ 0) : ∃ v, word_divide.f 19 o a b = some (v, true) := by
  unfold word_divide.f
  rw [if_neg hb]
  by_cases h1 : b = -1
  · rw [if_pos h1]
    simp only [word_divide.j0]
    by_cases h2 : (o == 4) = true
    · rw [if_pos h2]; exact ⟨_, rfl⟩
    · rw [if_neg h2, if_pos h1]; exact ⟨_, rfl⟩
  · rw [if_neg h1]
    simp only [word_divide.j0, Bool.false_eq_true, if_false]
    rw [if_neg h1]
    by_cases h2 : o = 4
    · rw [if_pos h2, if_neg hb]; exact ⟨_, rfl⟩
    · rw [if_neg h2, if_neg hb]; exact ⟨_, rfl⟩
theorem do4 (a b : Int) (hb : b ≠ 0) : ∃ v, word_Do.f 20 4 a b = some (v, true) := by
  obtain ⟨v, e⟩ := divide_ok 4 a b hb
  exact ⟨v, by show (word_divide.f 19 4 a b).bind _ = _; rw [e]; rfl⟩
theorem do5 (a b : Int) (hb : b ≠ 0) : ∃ v, word_Do.f 20 5 a b = some (v, true) := by
  obtain ⟨v, e⟩ := divide_ok 5 a b hb
  exact ⟨v, by show (word_divide.f 19 5 a b).bind _ = _; rw [e]; rfl⟩
theorem do4z (a : Int) : word_Do.f 20 4 a 0 = some (0, false) := rfl
theorem do5z (a : Int) : word_Do.f 20 5 a 0 = some (0, false) := rfl
theorem do4any (a b : Int) : ∃ v ok, word_Do.f 20 4 a b = some (v, ok) := by
  by_cases h : b = 0
  · subst h; exact ⟨_, _, do4z a⟩
  · obtain ⟨v, e⟩ := do4 a b h; exact ⟨v, true, e⟩
theorem do5any (a b : Int) : ∃ v ok, word_Do.f 20 5 a b = some (v, ok) := by
  by_cases h : b = 0
  · subst h; exact ⟨_, _, do5z a⟩
  · obtain ⟨v, e⟩ := do5 a b h; exact ⟨v, true, e⟩
theorem do9 (a b : Int) : word_Do.f 20 9 a b = some (shl .i64 a (Go.bits .and .u64 (IntKind.u64.wrap b) 63), true) := by
  have h : word_Do.f 20 9 a b = if 0 ≤ Go.bits .and .u64 (IntKind.u64.wrap b) 63 then some (shl .i64 a (Go.bits .and .u64 (IntKind.u64.wrap b) 63), true) else none := rfl
  rw [h, if_pos (count_pos b)]
theorem do10 (a b : Int) : word_Do.f 20 10 a b = some (shr .i64 a (Go.bits .and .u64 (IntKind.u64.wrap b) 63), true) := by
  have h : word_Do.f 20 10 a b = if 0 ≤ Go.bits .and .u64 (IntKind.u64.wrap b) 63 then some (shr .i64 a (Go.bits .and .u64 (IntKind.u64.wrap b) 63), true) else none := rfl
  rw [h, if_pos (count_pos b)]
theorem dot (o a b : Int) (t : Bool) (h : word_Do.f 20 o a b = (word_Bool.f t).bind fun x => some (x, true)) : word_Do.f 20 o a b = some (if t then 1 else 0, true) := by
  rw [h, wbool]; rfl
theorem comm_of (f : BitVec 64 → BitVec 64 → BitVec 64) (hc : ∀ x y, f x y = f y x) (a b : Int) : IntKind.i64.wrap ((f (BitVec.ofInt 64 b) (BitVec.ofInt 64 a)).toNat : Int) = IntKind.i64.wrap ((f (BitVec.ofInt 64 a) (BitVec.ofInt 64 b)).toNat : Int) := by rw [hc]

theorem known_walk (o a b : Int) (w : World) (h0 : 1 ≤ o) (h1 : o ≤ 15) (hc : ∀ (i : Nat) (b : List UInt8), nameList[i]? = some b → w.cell? ⟨0, i, none⟩ = some (Value.string ⟨b.toArray⟩)) :
    Calls Tryd.prog 3 #[.int .i64 o, .int .i64 a, .int .i64 b] w fun e w' => e = .returned (.bool true) ∧ Below w.heap.size w w' := by
  have ho : o = 1 ∨ o = 2 ∨ o = 3 ∨ o = 4 ∨ o = 5 ∨ o = 6 ∨ o = 7 ∨ o = 8 ∨ o = 9 ∨ o = 10 ∨ o = 11 ∨ o = 12 ∨ o = 13 ∨ o = 14 ∨ o = 15 := by omega
  rcases ho with rfl | rfl | rfl | rfl | rfl | rfl | rfl | rfl | rfl | rfl | rfl | rfl | rfl | rfl | rfl
  · exact kind1 a b _ w (hc 1 _ rfl) ⟨rfl⟩ ⟨by rw [Int.add_comm a b]; rfl⟩
  · exact kind2 a b _ _ w (hc 2 _ rfl) ⟨rfl⟩ ⟨rfl⟩
  · exact kind3 a b _ w (hc 3 _ rfl) ⟨rfl⟩ ⟨by rw [Int.mul_comm a b]; rfl⟩
  · obtain ⟨v', ok', h2⟩ := do4any b a
    rcases zero_or b with rfl | hb
    · exact kind4z a v' ok' w (hc 4 _ rfl) ⟨do4z a⟩ ⟨h2⟩
    · obtain ⟨v, h3⟩ := do4 a b (by simpa using hb)
      exact kind4 a b v v' ok' hb w (hc 4 _ rfl) ⟨h3⟩ ⟨h2⟩
  · obtain ⟨v', ok', h2⟩ := do5any b a
    rcases zero_or b with rfl | hb
    · exact kind5z a v' ok' w (hc 5 _ rfl) ⟨do5z a⟩ ⟨h2⟩
    · obtain ⟨v, h3⟩ := do5 a b (by simpa using hb)
      exact kind5 a b v v' ok' hb w (hc 5 _ rfl) ⟨h3⟩ ⟨h2⟩
  · exact kind6 a b _ w (hc 6 _ rfl) ⟨rfl⟩ ⟨congrArg (fun x => some (x, true)) (comm_of (· &&& ·) BitVec.and_comm a b)⟩
  · exact kind7 a b _ w (hc 7 _ rfl) ⟨rfl⟩ ⟨congrArg (fun x => some (x, true)) (comm_of (· ||| ·) BitVec.or_comm a b)⟩
  · exact kind8 a b _ w (hc 8 _ rfl) ⟨rfl⟩ ⟨congrArg (fun x => some (x, true)) (comm_of (· ^^^ ·) BitVec.xor_comm a b)⟩
  · exact kind9 a b _ _ w (hc 9 _ rfl) ⟨do9 a b⟩ ⟨do9 b a⟩
  · exact kind10 a b _ _ w (hc 10 _ rfl) ⟨do10 a b⟩ ⟨do10 b a⟩
  · exact kind11 a b _ w (hc 11 _ rfl) ⟨dot 11 a b (a == b) rfl⟩ ⟨by rw [dot 11 b a (b == a) rfl, show (b == a) = (a == b) by rw [Bool.eq_iff_iff]; simp; exact eq_comm]⟩
  · exact kind12 a b _ w (hc 12 _ rfl) ⟨dot 12 a b (a != b) rfl⟩ ⟨by rw [dot 12 b a (b != a) rfl, show (b != a) = (a != b) by rw [Bool.eq_iff_iff]; simp; exact not_congr eq_comm]⟩
  · exact kind13 a b _ _ w (hc 13 _ rfl) ⟨dot 13 a b _ rfl⟩ ⟨dot 13 b a _ rfl⟩
  · exact kind14 a b _ _ w (hc 14 _ rfl) ⟨dot 14 a b _ rfl⟩ ⟨dot 14 b a _ rfl⟩
  · exact kind15 a b _ _ w (hc 15 _ rfl) ⟨dot 15 a b _ rfl⟩ ⟨dot 15 b a _ rfl⟩

theorem known_no (o : Int) (h : o < 1 ∨ 15 < o) : word_Op_Known.f o = some false := by
  unfold word_Op_Known.f
  rcases h with h | h
  · rw [if_neg (by omega)]
  · rw [if_pos (by omega), show decide (o ≤ 15) = false by simp; omega]
theorem truth_no (o : Int) (h : o < 1 ∨ 15 < o) : word_Op_Truth.f o = some false := by
  unfold word_Op_Truth.f
  rcases h with h | h
  · rw [if_neg (by omega)]
  · rw [if_pos (by omega), show decide (o ≤ 15) = false by simp; omega]
theorem divides_no (o : Int) (h : o < 1 ∨ 15 < o) : word_Op_Divides.f o = some false := by
  unfold word_Op_Divides.f
  rw [if_neg (by omega), show (o == 5) = false by simp; omega]
theorem swaps_no (o : Int) (h : o < 1 ∨ 15 < o) : word_Op_Swaps.f o = some false := by
  unfold word_Op_Swaps.f
  rw [if_neg (by omega), if_neg (by omega), if_neg (by omega), if_neg (by omega), if_neg (by omega), if_neg (by omega), show (o == 12) = false by simp; omega]

theorem walk (o a b : Int) (w : World) (h0 : (Lit.int .i64 o).wf = true) (h1 : (Lit.int .i64 a).wf = true) (h2 : (Lit.int .i64 b).wf = true) (hL : laidMetH Tryd.prog laid w) :
    Calls Tryd.prog 3 #[.int .i64 o, .int .i64 a, .int .i64 b] w fun e w' => e = .returned (.bool true) ∧ Below w.heap.size w w' := by
  by_cases hlo : o < 1
  · have h : o < 1 ∨ 15 < o := .inl hlo
    exact kindLow o a b w (by simp; omega) (by simp; omega) (by simp; omega) (by simp; omega) (by simp; omega) (by simp; omega) (by simp; omega) (by simp; omega) (by simp; omega)
      ⟨known_no o h⟩ ⟨truth_no o h⟩ ⟨divides_no o h⟩ ⟨swaps_no o h⟩ ⟨unknown_do o a b h⟩ ⟨unknown_do o b a h⟩
  · by_cases hhi : 15 < o
    · have h : o < 1 ∨ 15 < o := .inr hhi
      exact kindHigh o a b w (by simp; omega) (by simp; omega) (by simp; omega) (by simp; omega) (by simp; omega) (by simp; omega) (by simp; omega) (by simp; omega) (by simp; omega) (by simp; omega) (by simp; omega)
        ⟨known_no o h⟩ ⟨truth_no o h⟩ ⟨divides_no o h⟩ ⟨swaps_no o h⟩ ⟨unknown_do o a b h⟩ ⟨unknown_do o b a h⟩
    · exact known_walk o a b w (by omega) (by omega) (of_laid hL)
end Go.Proofs.YtifonhhdfoefhaaDoor.Kinds
