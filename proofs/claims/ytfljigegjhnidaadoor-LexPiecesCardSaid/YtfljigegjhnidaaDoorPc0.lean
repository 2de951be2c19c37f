/- For LexPieces: its struct, its tables, Itoa. -/
import Derived.Test.YtfljigegjhnidaaDoorStr
import Derived.Test.YtfljigegjhnidaaDoorLexSpec3
namespace Go.Proofs.YtfljigegjhnidaaDoor.B
open Go.RowKit Go.Proofs.YtfljigegjhnidaaDoor.Mine Go.Proofs.YtfljigegjhnidaaDoorW.PrintWords Go.Proofs.YtfljigegjhnidaaDoorW.PrintLast Go.Proofs.YtfljigegjhnidaaDoorW.PrintMore
attribute [local go_sem] max2_int min2_int max_two min_two max_three min_three max_four min_four
set_option linter.unusedVariables false
set_option linter.unusedSimpArgs false
/-! #### struct type 45 -/
structure S45 where
  f0 : Int
  f1 : Int
  f2 : Int
def z45 : S45 := ⟨(0 : Int), (0 : Int), (0 : Int)⟩
def k45 : Kd S45 := Kd.iso (Kd.pair (Kd.int .i64) (Kd.pair (Kd.int .i64) (Kd.int .i64))) (fun x : S45 => (x.f0, x.f1, x.f2))
theorem k45_open {w : World} {x : S45} {cs : List Value} (h : k45.K w x cs) : cs = [.int .i64 x.f0, .int .i64 x.f1, .int .i64 x.f2] := by
  obtain ⟨_, _, rfl, rfl, ⟨_, _, rfl, rfl, rfl⟩⟩ := h
  exact rfl
theorem k45_openM {w : World} {base : Nat} {ok : Nat → Prop} {x : S45} {cs : List Value} (h : k45.M w base ok x cs) : cs = [.int .i64 x.f0, .int .i64 x.f1, .int .i64 x.f2] := by
  obtain ⟨_, _, rfl, rfl, ⟨_, _, rfl, rfl, rfl⟩⟩ := h
  exact rfl
theorem k45_mk (w : World) (x : S45)  : k45.K w x [.int .i64 x.f0, .int .i64 x.f1, .int .i64 x.f2] := ⟨[.int .i64 x.f0], [.int .i64 x.f1, .int .i64 x.f2], rfl, rfl, ⟨[.int .i64 x.f1], [.int .i64 x.f2], rfl, rfl, rfl⟩⟩
theorem k45_mkM (w : World) (base : Nat) (ok : Nat → Prop) (x : S45)  : k45.M w base ok x [.int .i64 x.f0, .int .i64 x.f1, .int .i64 x.f2] := ⟨[.int .i64 x.f0], [.int .i64 x.f1, .int .i64 x.f2], rfl, rfl, ⟨[.int .i64 x.f1], [.int .i64 x.f2], rfl, rfl, rfl⟩⟩
def rd_T45 (xs : List S45) (i : Int) : S45 := xs.getD i.toNat z45
theorem at_T45 {w : World} {A : Option Addr} {n : Nat} {xs : List S45} (h : Kd.C k45 w A n xs) (i : Int) (h0 : 0 ≤ i) (h1 : i < n) : ∃ ad , A = some ad ∧ w.cell? (ad.add (i.toNat * 3)) = some (.int .i64 (rd_T45 xs i).f0) ∧ w.cell? ⟨(ad.add (i.toNat * 3)).block, (ad.add (i.toNat * 3)).off + 1, none⟩ = some (.int .i64 (rd_T45 xs i).f1) ∧ w.cell? ⟨(ad.add (i.toNat * 3)).block, (ad.add (i.toNat * 3)).off + 2, none⟩ = some (.int .i64 (rd_T45 xs i).f2) := by
  obtain ⟨ad, c, e, _, hK, hc0⟩ := Kd.C_get h z45 i h0 h1
  have hc : ∀ j u, c[j]? = some u → w.cell? (ad.add (i.toNat * 3 + j)) = some u := hc0
  obtain rfl := k45_open hK
  exact ⟨ad, e, hc 0 _ rfl, by rw [← add_field _ _ 1 (by omega)]; exact hc 1 _ rfl, by rw [← add_field _ _ 2 (by omega)]; exact hc 2 _ rfl⟩


theorem eqA34 (d : Nat) (w : World) (x0 y0 : Int) (x1 y1 : ByteArray) (x2 y2 : Int) (x3 y3 : Int) (x4 y4 : Int) :
    (Op.equalIn (d + 3) 34 (.agg #[.int .i64 x0, .string x1, .int .i64 x2, .int .i64 x3, .int .i64 x4]) (.agg #[.int .i64 y0, .string y1, .int .i64 y2, .int .i64 y3, .int .i64 y4])).run Tryd.prog w = .ok (x0 == y0 && (x1.toList == y1.toList && (x2 == y2 && ((x3 == y3 && (x4 == y4)))))) w := by
  refine eqA_of Tryd.underlying34 (by kernel_rfl) ?_
  refine eqf_cons (by rfl) (by go_simp; rfl) (by go_simp; rfl) (by go_simp) ?_
  refine eqf_cons (by rfl) (by go_simp; rfl) (by go_simp; rfl) (by go_simp) ?_
  refine eqf_cons (by rfl) (by go_simp; rfl) (by go_simp; rfl) (by go_simp) ?_
  exact eqf_last (by rfl) (by go_simp) (by go_simp) (eqA26 (d + 0) w _ _ _ _)

def strconv_Itoa.f (a0 : Int) : Option ByteArray := if -9223372036854775808 ≤ a0 ∧ a0 ≤ 9223372036854775807 then some ⟨(Lib.itoa a0).toArray⟩ else none
theorem strconv_Itoa.calls (a0 : Int) (r : ByteArray) (w : World) (hP : Lib.TabIs Tryd.prog w "internal/strconv.uint64pow10" .u64 Lib.pow10Tab) (h : strconv_Itoa.f a0 = some r) :
    Calls Tryd.prog 15 #[.int .i64 a0] w fun e w' => e = .returned (.string r) ∧ Below w.heap.size w w' := by
  unfold strconv_Itoa.f at h
  split at h
  · rename_i hr
    obtain rfl := Option.some.inj h
    exact itoa_at a0 hr.1 hr.2 w hP
  · cases h
def tabAt (l : List (List UInt8)) (a0 : Int) : Option ByteArray := if 0 ≤ a0 ∧ a0 ≤ 65535 then some ⟨(l.getD (a0 % (l.length : Int)).toNat []).toArray⟩ else none
abbrev palingslaw02_wordAt.f (a0 : Int) : Option ByteArray := tabAt wordList a0
abbrev palingslaw02_markAt.f (a0 : Int) : Option ByteArray := tabAt markList a0
theorem tmod_wrap (a n : Int) (h : 0 < n) (h2 : n ≤ 100) : wrap64 (Int.tmod a n) = Int.tmod a n := by
  have h3 : (Int.tmod a n).natAbs < n.natAbs := by rw [Int.natAbs_tmod]; exact Nat.mod_lt _ (by omega)
  unfold wrap64; omega
theorem tab_fact {w : World} {g : Nat} {l : List (List UInt8)} (h : StrsAt w g l) (hl : 0 < l.length) (hl2 : l.length ≤ 100) (a0 : Int) (r : ByteArray) (hr : tabAt l a0 = some r) :
    ∃ (wa : Addr) (cap : Nat), w.cell? ⟨g, 0, none⟩ = some (.slice (some wa) l.length cap) ∧ ∀ j : Int, wrap64 (Int.tmod a0 (l.length : Int)) = j → w.cell? (wa.add j.toNat) = some (.string r) ∧ 0 ≤ j ∧ j < (l.length : Int) := by
  obtain ⟨wa, cap, h0, h1⟩ := h
  unfold tabAt at hr
  split at hr
  · rename_i hb
    obtain rfl := Option.some.inj hr
    refine ⟨wa, cap, h0, fun j hj => ?_⟩
    have hlt := Int.emod_lt_of_pos a0 (show (0 : Int) < l.length by omega)
    have hge := Int.emod_nonneg a0 (show (l.length : Int) ≠ 0 by omega)
    rw [Int.tmod_eq_emod_of_nonneg hb.1, wrap_small (by omega) (by omega)] at hj
    subst hj
    refine ⟨h1 _ _ ?_, hge, hlt⟩
    have hlt' : (a0 % (l.length : Int)).toNat < l.length := by omega
    rw [List.getD_eq_getElem?_getD, List.getElem?_eq_getElem hlt']
    rfl
  · cases hr
end Go.Proofs.YtfljigegjhnidaaDoor.B
