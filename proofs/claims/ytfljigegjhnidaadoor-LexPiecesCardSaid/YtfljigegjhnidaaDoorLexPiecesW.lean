/- The walk of LexPieces: out of the kit's print, changed by a program of mine. -/
import Derived.Test.YtfljigegjhnidaaDoorPc0
import Derived.Test.YtfljigegjhnidaaDoorBx4
namespace Go.Proofs.YtfljigegjhnidaaDoor.B
open Go.RowKit Go.Proofs.YtfljigegjhnidaaDoor.Mine Go.Proofs.YtfljigegjhnidaaDoorW.PrintWords Go.Proofs.YtfljigegjhnidaaDoorW.PrintLast Go.Proofs.YtfljigegjhnidaaDoorW.PrintMore
attribute [local go_sem] max2_int min2_int max_two min_two max_three min_three max_four min_four
set_option linter.unusedVariables false
set_option linter.unusedSimpArgs false
attribute [local go_sem high] eqA28 eqA34
/-! ### palingslaw02_LexPieces: function 8 -/
mutual
def palingslaw02_LexPieces.l0 : Nat → ByteArray → List (S34) → List (S45) → Int → Int → Option (Bool)
  | 0, _, _, _, _, _ => none
  | k + 1, x3, x4, x19, x20, x21 => if x21 < x20 then (if 0 ≤ x21 then (if x21 < (x19.length : Int) then (if (Go.bits .and .i64 ((rd_T45 x19 x21).f0) 3) = 0 then ((strconv_Itoa.f (Go.bits .and .i64 ((rd_T45 x19 x21).f1) 65535)).bind fun t196 => (if 1 + t196.size ≤ 9223372036854775807 then (if ((⟨#[120]⟩ : ByteArray) ++ t196).size + 2 ≤ 9223372036854775807 then ((some (([(⟨#[32]⟩ : ByteArray), (⟨#[10]⟩ : ByteArray), (⟨#[9, 32, 13, 10]⟩ : ByteArray), (⟨#[32, 47, 47, 32, 110, 111, 32, 116, 111, 107, 101, 110, 32, 38, 38, 32, 53, 10]⟩ : ByteArray), (⟨#[10, 47, 47, 10]⟩ : ByteArray)] : List ByteArray) : List ByteArray)).bind fun y197 => (if 0 ≤ (wrap64 (Int.tmod (IntKind.u64.wrap ((rd_T45 x19 x21).f2)) 5)) then (if (wrap64 (Int.tmod (IntKind.u64.wrap ((rd_T45 x19 x21).f2)) 5)) < (y197.length : Int) then (if x3.size + (rdOf ByteArray.empty y197 (wrap64 (Int.tmod (IntKind.u64.wrap ((rd_T45 x19 x21).f2)) 5))).size ≤ 9223372036854775807 then ((palingslaw02_place.f k (x3 ++ (rdOf ByteArray.empty y197 (wrap64 (Int.tmod (IntKind.u64.wrap ((rd_T45 x19 x21).f2)) 5)))) ((x3 ++ (rdOf ByteArray.empty y197 (wrap64 (Int.tmod (IntKind.u64.wrap ((rd_T45 x19 x21).f2)) 5)))).size : Int)).bind fun bt201 => (if (x3 ++ (rdOf ByteArray.empty y197 (wrap64 (Int.tmod (IntKind.u64.wrap ((rd_T45 x19 x21).f2)) 5)))).size + (((⟨#[120]⟩ : ByteArray) ++ t196) ++ (⟨#[95, 89]⟩ : ByteArray)).size ≤ 9223372036854775807 then (if x4.length < 2932031007402 then (palingslaw02_LexPieces.l0 k ((x3 ++ (rdOf ByteArray.empty y197 (wrap64 (Int.tmod (IntKind.u64.wrap ((rd_T45 x19 x21).f2)) 5)))) ++ (((⟨#[120]⟩ : ByteArray) ++ t196) ++ (⟨#[95, 89]⟩ : ByteArray))) (x4 ++ [(⟨1, ((⟨#[120]⟩ : ByteArray) ++ t196) ++ (⟨#[95, 89]⟩ : ByteArray), 0, (⟨bt201.1, bt201.2⟩ : S26)⟩ : S34)]) x19 x20 (wrap64 (x21 + 1))) else (none)) else (none))) else (none)) else (none)) else (none))) else (none)) else (none))) else (if (Go.bits .and .i64 ((rd_T45 x19 x21).f0) 3) = 1 then ((strconv_Itoa.f (Go.bits .and .i64 ((rd_T45 x19 x21).f1) 65535)).bind fun t206 => ((some (([(⟨#[32]⟩ : ByteArray), (⟨#[10]⟩ : ByteArray), (⟨#[9, 32, 13, 10]⟩ : ByteArray), (⟨#[32, 47, 47, 32, 110, 111, 32, 116, 111, 107, 101, 110, 32, 38, 38, 32, 53, 10]⟩ : ByteArray), (⟨#[10, 47, 47, 10]⟩ : ByteArray)] : List ByteArray) : List ByteArray)).bind fun y207 => (if 0 ≤ (wrap64 (Int.tmod (IntKind.u64.wrap ((rd_T45 x19 x21).f2)) 5)) then (if (wrap64 (Int.tmod (IntKind.u64.wrap ((rd_T45 x19 x21).f2)) 5)) < (y207.length : Int) then (if x3.size + (rdOf ByteArray.empty y207 (wrap64 (Int.tmod (IntKind.u64.wrap ((rd_T45 x19 x21).f2)) 5))).size ≤ 9223372036854775807 then ((palingslaw02_place.f k (x3 ++ (rdOf ByteArray.empty y207 (wrap64 (Int.tmod (IntKind.u64.wrap ((rd_T45 x19 x21).f2)) 5)))) ((x3 ++ (rdOf ByteArray.empty y207 (wrap64 (Int.tmod (IntKind.u64.wrap ((rd_T45 x19 x21).f2)) 5)))).size : Int)).bind fun bt211 => (if (x3 ++ (rdOf ByteArray.empty y207 (wrap64 (Int.tmod (IntKind.u64.wrap ((rd_T45 x19 x21).f2)) 5)))).size + t206.size ≤ 9223372036854775807 then (if x4.length < 2932031007402 then (palingslaw02_LexPieces.l0 k ((x3 ++ (rdOf ByteArray.empty y207 (wrap64 (Int.tmod (IntKind.u64.wrap ((rd_T45 x19 x21).f2)) 5)))) ++ t206) (x4 ++ [(⟨2, t206, Go.bits .and .i64 ((rd_T45 x19 x21).f1) 65535, (⟨bt211.1, bt211.2⟩ : S26)⟩ : S34)]) x19 x20 (wrap64 (x21 + 1))) else (none)) else (none))) else (none)) else (none)) else (none)))) else (if (Go.bits .and .i64 ((rd_T45 x19 x21).f0) 3) = 2 then ((palingslaw02_wordAt.f (Go.bits .and .i64 ((rd_T45 x19 x21).f1) 65535)).bind fun t216 => ((some (([(⟨#[32]⟩ : ByteArray), (⟨#[10]⟩ : ByteArray), (⟨#[9, 32, 13, 10]⟩ : ByteArray), (⟨#[32, 47, 47, 32, 110, 111, 32, 116, 111, 107, 101, 110, 32, 38, 38, 32, 53, 10]⟩ : ByteArray), (⟨#[10, 47, 47, 10]⟩ : ByteArray)] : List ByteArray) : List ByteArray)).bind fun y217 => (if 0 ≤ (wrap64 (Int.tmod (IntKind.u64.wrap ((rd_T45 x19 x21).f2)) 5)) then (if (wrap64 (Int.tmod (IntKind.u64.wrap ((rd_T45 x19 x21).f2)) 5)) < (y217.length : Int) then (if x3.size + (rdOf ByteArray.empty y217 (wrap64 (Int.tmod (IntKind.u64.wrap ((rd_T45 x19 x21).f2)) 5))).size ≤ 9223372036854775807 then ((palingslaw02_place.f k (x3 ++ (rdOf ByteArray.empty y217 (wrap64 (Int.tmod (IntKind.u64.wrap ((rd_T45 x19 x21).f2)) 5)))) ((x3 ++ (rdOf ByteArray.empty y217 (wrap64 (Int.tmod (IntKind.u64.wrap ((rd_T45 x19 x21).f2)) 5)))).size : Int)).bind fun bt221 => (if (x3 ++ (rdOf ByteArray.empty y217 (wrap64 (Int.tmod (IntKind.u64.wrap ((rd_T45 x19 x21).f2)) 5)))).size + t216.size ≤ 9223372036854775807 then (if x4.length < 2932031007402 then (palingslaw02_LexPieces.l0 k ((x3 ++ (rdOf ByteArray.empty y217 (wrap64 (Int.tmod (IntKind.u64.wrap ((rd_T45 x19 x21).f2)) 5)))) ++ t216) (x4 ++ [(⟨3, t216, 0, (⟨bt221.1, bt221.2⟩ : S26)⟩ : S34)]) x19 x20 (wrap64 (x21 + 1))) else (none)) else (none))) else (none)) else (none)) else (none)))) else ((palingslaw02_markAt.f (Go.bits .and .i64 ((rd_T45 x19 x21).f1) 65535)).bind fun t226 => ((some (([(⟨#[32]⟩ : ByteArray), (⟨#[10]⟩ : ByteArray), (⟨#[9, 32, 13, 10]⟩ : ByteArray), (⟨#[32, 47, 47, 32, 110, 111, 32, 116, 111, 107, 101, 110, 32, 38, 38, 32, 53, 10]⟩ : ByteArray), (⟨#[10, 47, 47, 10]⟩ : ByteArray)] : List ByteArray) : List ByteArray)).bind fun y227 => (if 0 ≤ (wrap64 (Int.tmod (IntKind.u64.wrap ((rd_T45 x19 x21).f2)) 5)) then (if (wrap64 (Int.tmod (IntKind.u64.wrap ((rd_T45 x19 x21).f2)) 5)) < (y227.length : Int) then (if x3.size + (rdOf ByteArray.empty y227 (wrap64 (Int.tmod (IntKind.u64.wrap ((rd_T45 x19 x21).f2)) 5))).size ≤ 9223372036854775807 then ((palingslaw02_place.f k (x3 ++ (rdOf ByteArray.empty y227 (wrap64 (Int.tmod (IntKind.u64.wrap ((rd_T45 x19 x21).f2)) 5)))) ((x3 ++ (rdOf ByteArray.empty y227 (wrap64 (Int.tmod (IntKind.u64.wrap ((rd_T45 x19 x21).f2)) 5)))).size : Int)).bind fun bt231 => (if (x3 ++ (rdOf ByteArray.empty y227 (wrap64 (Int.tmod (IntKind.u64.wrap ((rd_T45 x19 x21).f2)) 5)))).size + t226.size ≤ 9223372036854775807 then (if x4.length < 2932031007402 then (palingslaw02_LexPieces.l0 k ((x3 ++ (rdOf ByteArray.empty y227 (wrap64 (Int.tmod (IntKind.u64.wrap ((rd_T45 x19 x21).f2)) 5)))) ++ t226) (x4 ++ [(⟨4, t226, 0, (⟨bt231.1, bt231.2⟩ : S26)⟩ : S34)]) x19 x20 (wrap64 (x21 + 1))) else (none)) else (none))) else (none)) else (none)) else (none))))))) else (none)) else (none)) else ((palingslaw02_place.f k x3 (x3.size : Int)).bind fun bt236 => (if x4.length < 2932031007402 then ((some (x4 ++ [(⟨0, (⟨#[]⟩ : ByteArray), 0, (⟨bt236.1, bt236.2⟩ : S26)⟩ : S34)] : List (S34))).bind fun y238 => ((lex_All.f k x3).bind fun bt241 => (if (!(bt241.2.1 == 0) || ((!(bt241.2.2.1 == 0) || (!(bt241.2.2.2 == 0))))) = true then (palingslaw02_LexPieces.j1 k y238 bt241.1 true) else (palingslaw02_LexPieces.j1 k y238 bt241.1 ((bt241.1.length : Int) != (y238.length : Int)))))) else (none)))
def palingslaw02_LexPieces.j1 : Nat → List (S34) → List (S34) → Bool → Option (Bool)
  | 0, _, _, _ => none
  | k + 1, x4, x10, x111 => if x111 = true then (some false) else (palingslaw02_LexPieces.l1 k x4 x10 (x10.length : Int) 0)
def palingslaw02_LexPieces.l1 : Nat → List (S34) → List (S34) → Int → Int → Option (Bool)
  | 0, _, _, _, _ => none
  | k + 1, x4, x10, x113, x114 => if x114 < x113 then (if 0 ≤ x114 then (if x114 < (x10.length : Int) then (if x114 < (x4.length : Int) then (if (!(((rd_T34 x10 x114).f0) == ((rd_T34 x4 x114).f0)) || (!((((rd_T34 x10 x114).f1).toList) == (((rd_T34 x4 x114).f1).toList)) || (!(((rd_T34 x10 x114).f2) == ((rd_T34 x4 x114).f2)) || ((!(((rd_T34 x10 x114).f3.f0) == ((rd_T34 x4 x114).f3.f0)) || (!(((rd_T34 x10 x114).f3.f1) == ((rd_T34 x4 x114).f3.f1)))))))) = true then (some false) else (palingslaw02_LexPieces.l1 k x4 x10 x113 (wrap64 (x114 + 1)))) else (none)) else (none)) else (none)) else (some true)
end
def palingslaw02_LexPieces.f (k : Nat) (l0 : List (S45)) : Option (Bool) := (palingslaw02_head.f k).bind fun t189 => (if t189 = true then (if (l0.length : Int) > 40 then (some true) else (palingslaw02_LexPieces.l0 k (⟨#[]⟩ : ByteArray) (([] : List (S34))) l0 (l0.length : Int) 0)) else (some false))
theorem palingslaw02_LexPieces.mono_l : ∀ k, (∀ y0 y1 y2 y3 y4, LeO (palingslaw02_LexPieces.l0 k y0 y1 y2 y3 y4) (palingslaw02_LexPieces.l0 (k + 1) y0 y1 y2 y3 y4)) ∧ (∀ y0 y1 y2, LeO (palingslaw02_LexPieces.j1 k y0 y1 y2) (palingslaw02_LexPieces.j1 (k + 1) y0 y1 y2)) ∧ (∀ y0 y1 y2 y3, LeO (palingslaw02_LexPieces.l1 k y0 y1 y2 y3) (palingslaw02_LexPieces.l1 (k + 1) y0 y1 y2 y3))
  | 0 => ⟨fun _ _ _ _ _ r h => by simp [palingslaw02_LexPieces.l0] at h, fun _ _ _ r h => by simp [palingslaw02_LexPieces.j1] at h, fun _ _ _ _ r h => by simp [palingslaw02_LexPieces.l1] at h⟩
  | k + 1 => by
    obtain ⟨ih0, ih1, ih2⟩ := palingslaw02_LexPieces.mono_l k
    refine ⟨?_, ?_, ?_⟩
    · intro y0 y1 y2 y3 y4
      unfold palingslaw02_LexPieces.l0
      repeat' first
      | (with_reducible exact ih0 _ _ _ _ _)
      | (with_reducible exact ih1 _ _ _)
      | (with_reducible exact ih2 _ _ _ _)
      | (with_reducible exact lex_All.mono _ _)
      | (with_reducible exact palingslaw02_head.mono _)
      | (with_reducible exact palingslaw02_place.mono _ _ _)
      | (with_reducible exact LeO.refl _)
      | (with_reducible exact LeO.none _)
      | (with_reducible refine LeO.ite ?_ ?_)
      | (with_reducible refine LeO.bind ?_ (fun _ => ?_))
      | exact ih0 _ _ _ _ _
      | exact ih1 _ _ _
      | exact ih2 _ _ _ _
      | exact lex_All.mono _ _
      | exact palingslaw02_head.mono _
      | exact palingslaw02_place.mono _ _ _
      | exact LeO.none _
      | refine LeO.ite ?_ ?_
      | refine LeO.bind ?_ (fun _ => ?_)
    · intro y0 y1 y2
      unfold palingslaw02_LexPieces.j1
      repeat' first
      | (with_reducible exact ih0 _ _ _ _ _)
      | (with_reducible exact ih1 _ _ _)
      | (with_reducible exact ih2 _ _ _ _)
      | (with_reducible exact lex_All.mono _ _)
      | (with_reducible exact palingslaw02_head.mono _)
      | (with_reducible exact palingslaw02_place.mono _ _ _)
      | (with_reducible exact LeO.refl _)
      | (with_reducible exact LeO.none _)
      | (with_reducible refine LeO.ite ?_ ?_)
      | (with_reducible refine LeO.bind ?_ (fun _ => ?_))
      | exact ih0 _ _ _ _ _
      | exact ih1 _ _ _
      | exact ih2 _ _ _ _
      | exact lex_All.mono _ _
      | exact palingslaw02_head.mono _
      | exact palingslaw02_place.mono _ _ _
      | exact LeO.none _
      | refine LeO.ite ?_ ?_
      | refine LeO.bind ?_ (fun _ => ?_)
    · intro y0 y1 y2 y3
      unfold palingslaw02_LexPieces.l1
      repeat' first
      | (with_reducible exact ih0 _ _ _ _ _)
      | (with_reducible exact ih1 _ _ _)
      | (with_reducible exact ih2 _ _ _ _)
      | (with_reducible exact lex_All.mono _ _)
      | (with_reducible exact palingslaw02_head.mono _)
      | (with_reducible exact palingslaw02_place.mono _ _ _)
      | (with_reducible exact LeO.refl _)
      | (with_reducible exact LeO.none _)
      | (with_reducible refine LeO.ite ?_ ?_)
      | (with_reducible refine LeO.bind ?_ (fun _ => ?_))
      | exact ih0 _ _ _ _ _
      | exact ih1 _ _ _
      | exact ih2 _ _ _ _
      | exact lex_All.mono _ _
      | exact palingslaw02_head.mono _
      | exact palingslaw02_place.mono _ _ _
      | exact LeO.none _
      | refine LeO.ite ?_ ?_
      | refine LeO.bind ?_ (fun _ => ?_)
theorem palingslaw02_LexPieces.mono : ∀ a0 k, LeO (palingslaw02_LexPieces.f k a0) (palingslaw02_LexPieces.f (k + 1) a0) := by
  intro a0 k
  obtain ⟨ih0, ih1, ih2⟩ := palingslaw02_LexPieces.mono_l k
  unfold palingslaw02_LexPieces.f
  repeat' first
      | (with_reducible exact ih0 _ _ _ _ _)
      | (with_reducible exact ih1 _ _ _)
      | (with_reducible exact ih2 _ _ _ _)
      | (with_reducible exact lex_All.mono _ _)
      | (with_reducible exact palingslaw02_head.mono _)
      | (with_reducible exact palingslaw02_place.mono _ _ _)
      | (with_reducible exact LeO.refl _)
      | (with_reducible exact LeO.none _)
      | (with_reducible refine LeO.ite ?_ ?_)
      | (with_reducible refine LeO.bind ?_ (fun _ => ?_))
      | exact ih0 _ _ _ _ _
      | exact ih1 _ _ _
      | exact ih2 _ _ _ _
      | exact lex_All.mono _ _
      | exact palingslaw02_head.mono _
      | exact palingslaw02_place.mono _ _ _
      | exact LeO.none _
      | refine LeO.ite ?_ ?_
      | refine LeO.bind ?_ (fun _ => ?_)
set_option maxHeartbeats 8000000 in
set_option maxRecDepth 100000 in
theorem palingslaw02_LexPieces.calls (k : Nat) (A0 : Option Addr) (c0 : Nat) (l0 : List (S45)) (r : Bool) (w : World) (hr0 : Kd.C k45 w A0 l0.length l0) (hc0 : l0.length ≤ c0) (hL : GLaid w) (hP : Lib.TabIs Tryd.prog w "internal/strconv.uint64pow10" .u64 Lib.pow10Tab) (hW : StrsAt w 1 wordList) (hM : StrsAt w 0 markList) (h : palingslaw02_LexPieces.f k l0 = some r) :
    Calls Tryd.prog 8 #[.slice A0 l0.length c0] w fun e w' => e = .returned (.bool r) ∧ Below w.heap.size w w' := by
  have GL := Aside0.mk hL
  clear hL
  have GP := Aside0.mk hP
  clear hP
  have GW := Aside0.mk hW
  clear hW
  have GM := Aside0.mk hM
  clear hM
  have hu45 := Tryd.underlying45
  have hu34 := Tryd.underlying34
  have hu26 := Tryd.underlying26
  have hu28 := Tryd.underlying28
  have HR0 := Aside0.mk hr0
  have HC0 := Aside0.mk hc0
  clear hr0 hc0
  have HB := Aside0.mk (Below.refl w.heap.size w)
  have H : ((palingslaw02_head.f k).bind fun t189 => (if t189 = true then (if (l0.length : Int) > 40 then (some true) else (palingslaw02_LexPieces.l0 k (⟨#[]⟩ : ByteArray) (([] : List (S34))) l0 (l0.length : Int) 0)) else (some false))) = some r := h
  clear h
  replace H := Option.bind_eq_some_iff.mp H
  obtain ⟨t189, A20, H⟩ := H
  replace H : (if t189 = true then (if (l0.length : Int) > 40 then (some true) else (palingslaw02_LexPieces.l0 k (⟨#[]⟩ : ByteArray) (([] : List (S34))) l0 (l0.length : Int) 0)) else (some false)) = some r := H
  have A2 := Aside0.mk A20
  clear A20
  by_cases c3 : t189 = true
  · subst c3
    have H1 : (if (l0.length : Int) > 40 then (some true) else (palingslaw02_LexPieces.l0 k (⟨#[]⟩ : ByteArray) (([] : List (S34))) l0 (l0.length : Int) 0)) = some r := by rw [if_pos rfl] at H; exact H
    clear H
    have H := H1
    clear H1
    by_cases c4 : (l0.length : Int) > 40
    · rw [if_pos c4] at H
      have c4b0 : decide (40 < (l0.length : Int)) = true := decide_eq_true c4
      have c4b1 : decide (40 < l0.length) = true := decide_eq_true (by omega)
      clear c4
      obtain rfl := Option.some.inj H
      go_enter Tryd.func8, Tryd.ntmps8
      go_wp2_with (first | (go_at_call 9; (with_reducible refine (palingslaw02_head.calls k  true _ ?sideG A2.out).mono ?_); (case sideG => exact GL.out.below (by repeat (first | (with_reducible first | exact HB.out | apply below_alloc | apply pw_below_drewN | apply below_drew1) | exact HB.out))); rintro e w5 ⟨rfl, hb⟩; have n0_ := Aside0.mk (below_step (by repeat (first | (with_reducible first | exact HB.out | apply below_alloc | apply pw_below_drewN | apply below_drew1) | exact HB.out)) hb); clear HB; have HB := n0_; clear n0_; (try clear hb); (try clear hb2); (try clear hk); (try clear hi)))
      repeat (go_quiet (first | (go_at_call 9; (with_reducible refine (palingslaw02_head.calls k  true _ ?sideG A2.out).mono ?_); (case sideG => exact GL.out.below (by repeat (first | (with_reducible first | exact HB.out | apply below_alloc | apply pw_below_drewN | apply below_drew1) | exact HB.out))); rintro e w5 ⟨rfl, hb⟩; have n0_ := Aside0.mk (below_step (by repeat (first | (with_reducible first | exact HB.out | apply below_alloc | apply pw_below_drewN | apply below_drew1) | exact HB.out)) hb); clear HB; have HB := n0_; clear n0_; (try clear hb); (try clear hb2); (try clear hk); (try clear hi))); try go_wp2_with (first | (go_at_call 9; (with_reducible refine (palingslaw02_head.calls k  true _ ?sideG A2.out).mono ?_); (case sideG => exact GL.out.below (by repeat (first | (with_reducible first | exact HB.out | apply below_alloc | apply pw_below_drewN | apply below_drew1) | exact HB.out))); rintro e w5 ⟨rfl, hb⟩; have n0_ := Aside0.mk (below_step (by repeat (first | (with_reducible first | exact HB.out | apply below_alloc | apply pw_below_drewN | apply below_drew1) | exact HB.out)) hb); clear HB; have HB := n0_; clear n0_; (try clear hb); (try clear hb2); (try clear hk); (try clear hi))))
      go_ret
      exact ⟨by first | rfl | (simp [errW_none, errW_some] <;> rfl) | (simp [*, errW_none, errW_some] <;> rfl), by repeat (first | (with_reducible first | exact HB.out | apply below_alloc | apply pw_below_drewN | apply below_drew1) | exact HB.out)⟩
    · rw [if_neg c4] at H
      have c4b0 : decide (40 < (l0.length : Int)) = false := decide_eq_false c4
      have c4b1 : decide (40 < l0.length) = false := decide_eq_false (by omega)
      clear c4
      obtain ⟨y190, hy190⟩ : ∃ y_ : List (S34), y_ = (([] : List (S34))) := ⟨_, rfl⟩
      replace H : (palingslaw02_LexPieces.l0 k (⟨#[]⟩ : ByteArray) y190 l0 (l0.length : Int) 0) = some r := by first | (rw [hy190]; with_reducible exact H) | (have H2_ := (Option.bind_some _ _).symm.trans H; rw [hy190]; with_reducible exact H2_) | (have H2_ := (Option.bind_some _ _).symm.trans H; with_reducible exact H2_) | with_reducible exact H | (rw [hy190]; exact H) | exact H
      have Ny190 := Aside0.mk hy190
      clear hy190
      have H' := Aside0.mk H
      clear H
      go_enter Tryd.func8, Tryd.ntmps8
      go_wp2_with (first | (go_at_call 9; (with_reducible refine (palingslaw02_head.calls k  true _ ?sideG A2.out).mono ?_); (case sideG => exact GL.out.below (by repeat (first | (with_reducible first | exact HB.out | apply below_alloc | apply pw_below_drewN | apply below_drew1) | exact HB.out))); rintro e w6 ⟨rfl, hb⟩; have n0_ := Aside0.mk (below_step (by repeat (first | (with_reducible first | exact HB.out | apply below_alloc | apply pw_below_drewN | apply below_drew1) | exact HB.out)) hb); clear HB; have HB := n0_; clear n0_; (try clear hb); (try clear hb2); (try clear hk); (try clear hi)) | ((with_reducible refine gate_dst (N := 18) rfl ?_); (try (refine gate_guard (by rfl) ?_; dsimp only)); refine Kd.R_lit k34 _ 34 ?hg (N := 18) ?hd (xs := ([] : List (S34))) (inner := []) (ok := fun _ => True) (okp := fun _ => True) ?hr ?hp (fun _ hk => hk) trivial (Below.refl _ _) (Nat.le_refl _) (by simp) ?_; (case hd => rfl); (case hg => rfl); (case hr => first | (go_simp; done) | (go_simp; rfl)); (case hp => exact (Reps.none _ _)); intro v191 w7 ho8 hb hg_ hnew_; clear hg_ hnew_; (first | rw [← Ny190.out] at ho8 | (simp only [Int.reduceToNat] at ho8; rw [← Ny190.out] at ho8)); have n0_ := Aside0.mk (Kd.R_lower ho8 (below_size (by repeat (first | (with_reducible first | exact HB.out | apply below_alloc | apply pw_below_drewN | apply below_drew1) | exact HB.out)))); have n1_ := Aside0.mk (below_step (by repeat (first | (with_reducible first | exact HB.out | apply below_alloc | apply pw_below_drewN | apply below_drew1) | exact HB.out)) hb); clear HB; have HO192 := n0_; have HB := n1_; clear n0_ n1_; clear hb ho8))
      repeat (go_quiet (first | (go_at_call 9; (with_reducible refine (palingslaw02_head.calls k  true _ ?sideG A2.out).mono ?_); (case sideG => exact GL.out.below (by repeat (first | (with_reducible first | exact HB.out | apply below_alloc | apply pw_below_drewN | apply below_drew1) | exact HB.out))); rintro e w6 ⟨rfl, hb⟩; have n0_ := Aside0.mk (below_step (by repeat (first | (with_reducible first | exact HB.out | apply below_alloc | apply pw_below_drewN | apply below_drew1) | exact HB.out)) hb); clear HB; have HB := n0_; clear n0_; (try clear hb); (try clear hb2); (try clear hk); (try clear hi)) | ((with_reducible refine gate_dst (N := 18) rfl ?_); (try (refine gate_guard (by rfl) ?_; dsimp only)); refine Kd.R_lit k34 _ 34 ?hg (N := 18) ?hd (xs := ([] : List (S34))) (inner := []) (ok := fun _ => True) (okp := fun _ => True) ?hr ?hp (fun _ hk => hk) trivial (Below.refl _ _) (Nat.le_refl _) (by simp) ?_; (case hd => rfl); (case hg => rfl); (case hr => first | (go_simp; done) | (go_simp; rfl)); (case hp => exact (Reps.none _ _)); intro v191 w7 ho8 hb hg_ hnew_; clear hg_ hnew_; (first | rw [← Ny190.out] at ho8 | (simp only [Int.reduceToNat] at ho8; rw [← Ny190.out] at ho8)); have n0_ := Aside0.mk (Kd.R_lower ho8 (below_size (by repeat (first | (with_reducible first | exact HB.out | apply below_alloc | apply pw_below_drewN | apply below_drew1) | exact HB.out)))); have n1_ := Aside0.mk (below_step (by repeat (first | (with_reducible first | exact HB.out | apply below_alloc | apply pw_below_drewN | apply below_drew1) | exact HB.out)) hb); clear HB; have HO192 := n0_; have HB := n1_; clear n0_ n1_; clear hb ho8)); try go_wp2_with (first | (go_at_call 9; (with_reducible refine (palingslaw02_head.calls k  true _ ?sideG A2.out).mono ?_); (case sideG => exact GL.out.below (by repeat (first | (with_reducible first | exact HB.out | apply below_alloc | apply pw_below_drewN | apply below_drew1) | exact HB.out))); rintro e w6 ⟨rfl, hb⟩; have n0_ := Aside0.mk (below_step (by repeat (first | (with_reducible first | exact HB.out | apply below_alloc | apply pw_below_drewN | apply below_drew1) | exact HB.out)) hb); clear HB; have HB := n0_; clear n0_; (try clear hb); (try clear hb2); (try clear hk); (try clear hi)) | ((with_reducible refine gate_dst (N := 18) rfl ?_); (try (refine gate_guard (by rfl) ?_; dsimp only)); refine Kd.R_lit k34 _ 34 ?hg (N := 18) ?hd (xs := ([] : List (S34))) (inner := []) (ok := fun _ => True) (okp := fun _ => True) ?hr ?hp (fun _ hk => hk) trivial (Below.refl _ _) (Nat.le_refl _) (by simp) ?_; (case hd => rfl); (case hg => rfl); (case hr => first | (go_simp; done) | (go_simp; rfl)); (case hp => exact (Reps.none _ _)); intro v191 w7 ho8 hb hg_ hnew_; clear hg_ hnew_; (first | rw [← Ny190.out] at ho8 | (simp only [Int.reduceToNat] at ho8; rw [← Ny190.out] at ho8)); have n0_ := Aside0.mk (Kd.R_lower ho8 (below_size (by repeat (first | (with_reducible first | exact HB.out | apply below_alloc | apply pw_below_drewN | apply below_drew1) | exact HB.out)))); have n1_ := Aside0.mk (below_step (by repeat (first | (with_reducible first | exact HB.out | apply below_alloc | apply pw_below_drewN | apply below_drew1) | exact HB.out)) hb); clear HB; have HO192 := n0_; have HB := n1_; clear n0_ n1_; clear hb ho8)))
      go_loopg [3, 4, 21] k (fun kq v3 v4 v21 w' => ∃ (x3_1 : ByteArray) (x4_1 : List (S34)) (x21_1 : Int), v3 = .string x3_1 ∧ v21 = .int .i64 x21_1 ∧ Aside0 (palingslaw02_LexPieces.l0 kq x3_1 x4_1 l0 (l0.length : Int) x21_1 = some r) ∧ Aside0 (kq ≤ k) ∧ Aside0 (Kd.R k34 34 w' w.heap.size (fun _ => True) v4 x4_1) ∧ Aside0 (Below w.heap.size w w'))
      case atStart => exact ⟨((⟨#[]⟩ : ByteArray)), (y190), (0), (by first | rfl | (simp; done) | (simp [*]; done)), (by first | rfl | (simp; done) | (simp [*]; done)), H', ⟨Nat.le_refl _⟩, ⟨by (with_reducible repeat (first | apply Kd.R_alloc | apply Kd.R_drewN | apply Kd.R_drew)); exact HO192.out⟩, ⟨by repeat (first | (with_reducible first | exact HB.out | apply below_alloc | apply pw_below_drewN | apply below_drew1) | exact HB.out)⟩⟩
      case round =>
        clear H'
        try clear p2
        try clear c3
        try clear c4
        try clear c4b0
        try clear c4b1
        try clear c8
        obtain ⟨x3_1, x4_1, x21_1, rfl, rfl, HA, HK1, HO_4, HB⟩ := hrel
        cases gk with
        | zero => exact absurd HA.out (by simp [palingslaw02_LexPieces.l0])
        | succ k1 =>
          have H := HA.out
          clear HA
          simp only [palingslaw02_LexPieces.l0] at H
          by_cases c9 : x21_1 < (l0.length : Int)
          · rw [if_pos c9] at H
            have c9b0 : decide (x21_1 < (l0.length : Int)) = true := decide_eq_true c9
            clear c9
            by_cases c10 : 0 ≤ x21_1
            · rw [if_pos c10] at H
              have c10b0 : decide (0 ≤ x21_1) = true := decide_eq_true c10
              clear c10
              by_cases c11 : x21_1 < (l0.length : Int)
              · rw [if_pos c11] at H
                have c11b0 : decide (x21_1 < (l0.length : Int)) = true := decide_eq_true c11
                clear c11
                by_cases c12 : (Go.bits .and .i64 ((rd_T45 l0 x21_1).f0) 3) = 0
                · rw [if_pos c12] at H
                  have c12b0 : ((Go.bits .and .i64 ((rd_T45 l0 x21_1).f0) 3) == 0) = true := beq_iff_eq.mpr c12
                  have c12b1 : ((Go.bits .and .i64 ((rd_T45 l0 x21_1).f0) 3) != 0) = false := bne_eq_false_iff_eq.mpr c12
                  clear c12
                  replace H := Option.bind_eq_some_iff.mp H
                  obtain ⟨t196, A130, H⟩ := H
                  replace H : (if 1 + t196.size ≤ 9223372036854775807 then (if ((⟨#[120]⟩ : ByteArray) ++ t196).size + 2 ≤ 9223372036854775807 then ((some (([(⟨#[32]⟩ : ByteArray), (⟨#[10]⟩ : ByteArray), (⟨#[9, 32, 13, 10]⟩ : ByteArray), (⟨#[32, 47, 47, 32, 110, 111, 32, 116, 111, 107, 101, 110, 32, 38, 38, 32, 53, 10]⟩ : ByteArray), (⟨#[10, 47, 47, 10]⟩ : ByteArray)] : List ByteArray) : List ByteArray)).bind fun y197 => (if 0 ≤ (wrap64 (Int.tmod (IntKind.u64.wrap ((rd_T45 l0 x21_1).f2)) 5)) then (if (wrap64 (Int.tmod (IntKind.u64.wrap ((rd_T45 l0 x21_1).f2)) 5)) < (y197.length : Int) then (if x3_1.size + (rdOf ByteArray.empty y197 (wrap64 (Int.tmod (IntKind.u64.wrap ((rd_T45 l0 x21_1).f2)) 5))).size ≤ 9223372036854775807 then ((palingslaw02_place.f k1 (x3_1 ++ (rdOf ByteArray.empty y197 (wrap64 (Int.tmod (IntKind.u64.wrap ((rd_T45 l0 x21_1).f2)) 5)))) ((x3_1 ++ (rdOf ByteArray.empty y197 (wrap64 (Int.tmod (IntKind.u64.wrap ((rd_T45 l0 x21_1).f2)) 5)))).size : Int)).bind fun bt201 => (if (x3_1 ++ (rdOf ByteArray.empty y197 (wrap64 (Int.tmod (IntKind.u64.wrap ((rd_T45 l0 x21_1).f2)) 5)))).size + (((⟨#[120]⟩ : ByteArray) ++ t196) ++ (⟨#[95, 89]⟩ : ByteArray)).size ≤ 9223372036854775807 then (if x4_1.length < 2932031007402 then (palingslaw02_LexPieces.l0 k1 ((x3_1 ++ (rdOf ByteArray.empty y197 (wrap64 (Int.tmod (IntKind.u64.wrap ((rd_T45 l0 x21_1).f2)) 5)))) ++ (((⟨#[120]⟩ : ByteArray) ++ t196) ++ (⟨#[95, 89]⟩ : ByteArray))) (x4_1 ++ [(⟨1, ((⟨#[120]⟩ : ByteArray) ++ t196) ++ (⟨#[95, 89]⟩ : ByteArray), 0, (⟨bt201.1, bt201.2⟩ : S26)⟩ : S34)]) l0 (l0.length : Int) (wrap64 (x21_1 + 1))) else (none)) else (none))) else (none)) else (none)) else (none))) else (none)) else (none)) = some r := H
                  have A13 := Aside0.mk A130
                  clear A130
                  by_cases c14 : 1 + t196.size ≤ 9223372036854775807
                  · rw [if_pos c14] at H
                    have c14b0 := eq_true c14
                    have c14b1 : decide (1 + t196.size ≤ 9223372036854775807) = true := decide_eq_true c14
                    try have c14b2 : (9223372036854775807 < 1 + t196.size) = False := eq_false (Nat.not_lt.2 c14)
                    by_cases c15 : ((⟨#[120]⟩ : ByteArray) ++ t196).size + 2 ≤ 9223372036854775807
                    · rw [if_pos c15] at H
                      have c15b0 := eq_true c15
                      have c15b1 : decide (((⟨#[120]⟩ : ByteArray) ++ t196).size + 2 ≤ 9223372036854775807) = true := decide_eq_true c15
                      try have c15b2 : (9223372036854775807 < ((⟨#[120]⟩ : ByteArray) ++ t196).size + 2) = False := eq_false (Nat.not_lt.2 c15)
                      try (have c15b3 := c15; simp only [ByteArray.size_append, show (⟨#[120]⟩ : ByteArray).size = 1 from rfl, show (⟨#[95, 89]⟩ : ByteArray).size = 2 from rfl] at c15b3; replace c15b3 := eq_false (Nat.not_lt.2 c15b3))
                      obtain ⟨y197, hy197⟩ : ∃ y_ : List ByteArray, y_ = (([(⟨#[32]⟩ : ByteArray), (⟨#[10]⟩ : ByteArray), (⟨#[9, 32, 13, 10]⟩ : ByteArray), (⟨#[32, 47, 47, 32, 110, 111, 32, 116, 111, 107, 101, 110, 32, 38, 38, 32, 53, 10]⟩ : ByteArray), (⟨#[10, 47, 47, 10]⟩ : ByteArray)] : List ByteArray)) := ⟨_, rfl⟩
                      replace H : (if 0 ≤ (wrap64 (Int.tmod (IntKind.u64.wrap ((rd_T45 l0 x21_1).f2)) 5)) then (if (wrap64 (Int.tmod (IntKind.u64.wrap ((rd_T45 l0 x21_1).f2)) 5)) < (y197.length : Int) then (if x3_1.size + (rdOf ByteArray.empty y197 (wrap64 (Int.tmod (IntKind.u64.wrap ((rd_T45 l0 x21_1).f2)) 5))).size ≤ 9223372036854775807 then ((palingslaw02_place.f k1 (x3_1 ++ (rdOf ByteArray.empty y197 (wrap64 (Int.tmod (IntKind.u64.wrap ((rd_T45 l0 x21_1).f2)) 5)))) ((x3_1 ++ (rdOf ByteArray.empty y197 (wrap64 (Int.tmod (IntKind.u64.wrap ((rd_T45 l0 x21_1).f2)) 5)))).size : Int)).bind fun bt201 => (if (x3_1 ++ (rdOf ByteArray.empty y197 (wrap64 (Int.tmod (IntKind.u64.wrap ((rd_T45 l0 x21_1).f2)) 5)))).size + (((⟨#[120]⟩ : ByteArray) ++ t196) ++ (⟨#[95, 89]⟩ : ByteArray)).size ≤ 9223372036854775807 then (if x4_1.length < 2932031007402 then (palingslaw02_LexPieces.l0 k1 ((x3_1 ++ (rdOf ByteArray.empty y197 (wrap64 (Int.tmod (IntKind.u64.wrap ((rd_T45 l0 x21_1).f2)) 5)))) ++ (((⟨#[120]⟩ : ByteArray) ++ t196) ++ (⟨#[95, 89]⟩ : ByteArray))) (x4_1 ++ [(⟨1, ((⟨#[120]⟩ : ByteArray) ++ t196) ++ (⟨#[95, 89]⟩ : ByteArray), 0, (⟨bt201.1, bt201.2⟩ : S26)⟩ : S34)]) l0 (l0.length : Int) (wrap64 (x21_1 + 1))) else (none)) else (none))) else (none)) else (none)) else (none)) = some r := by first | (rw [hy197]; with_reducible exact H) | (have H2_ := (Option.bind_some _ _).symm.trans H; rw [hy197]; with_reducible exact H2_) | (have H2_ := (Option.bind_some _ _).symm.trans H; with_reducible exact H2_) | with_reducible exact H | (rw [hy197]; exact H) | exact H
                      have Ny197 := Aside0.mk hy197
                      clear hy197
                      obtain ⟨ji16, hji16⟩ : ∃ j_ : Int, (wrap64 (Int.tmod (IntKind.u64.wrap ((rd_T45 l0 x21_1).f2)) 5)) = j_ := ⟨_, rfl⟩
                      replace H : (if 0 ≤ (ji16) then (if (ji16) < (y197.length : Int) then (if x3_1.size + (rdOf ByteArray.empty y197 (ji16)).size ≤ 9223372036854775807 then ((palingslaw02_place.f k1 (x3_1 ++ (rdOf ByteArray.empty y197 (ji16))) ((x3_1 ++ (rdOf ByteArray.empty y197 (ji16))).size : Int)).bind fun bt201 => (if (x3_1 ++ (rdOf ByteArray.empty y197 (ji16))).size + (((⟨#[120]⟩ : ByteArray) ++ t196) ++ (⟨#[95, 89]⟩ : ByteArray)).size ≤ 9223372036854775807 then (if x4_1.length < 2932031007402 then (palingslaw02_LexPieces.l0 k1 ((x3_1 ++ (rdOf ByteArray.empty y197 (ji16))) ++ (((⟨#[120]⟩ : ByteArray) ++ t196) ++ (⟨#[95, 89]⟩ : ByteArray))) (x4_1 ++ [(⟨1, ((⟨#[120]⟩ : ByteArray) ++ t196) ++ (⟨#[95, 89]⟩ : ByteArray), 0, (⟨bt201.1, bt201.2⟩ : S26)⟩ : S34)]) l0 (l0.length : Int) (wrap64 (x21_1 + 1))) else (none)) else (none))) else (none)) else (none)) else (none)) = some r := by first | (rw [hji16] at H; exact H) | (simp only [hji16] at H ⊢; exact H)
                      (try rw [hji16] at A13)
                      have hji16w : (IntKind.i64.wrap (Int.tmod (IntKind.u64.wrap ((rd_T45 l0 x21_1).f2)) 5)) = ji16 := (i64_w _).trans hji16
                      by_cases c17 : 0 ≤ (ji16)
                      · rw [if_pos c17] at H
                        have c17b0 : decide (0 ≤ (ji16)) = true := decide_eq_true c17
                        clear c17
                        by_cases c18 : (ji16) < (y197.length : Int)
                        · rw [if_pos c18] at H
                          have c18b0 : decide ((ji16) < (y197.length : Int)) = true := decide_eq_true c18
                          clear c18
                          by_cases c19 : x3_1.size + (rdOf ByteArray.empty y197 (ji16)).size ≤ 9223372036854775807
                          · rw [if_pos c19] at H
                            have c19b0 := eq_true c19
                            have c19b1 : decide (x3_1.size + (rdOf ByteArray.empty y197 (ji16)).size ≤ 9223372036854775807) = true := decide_eq_true c19
                            try have c19b2 : (9223372036854775807 < x3_1.size + (rdOf ByteArray.empty y197 (ji16)).size) = False := eq_false (Nat.not_lt.2 c19)
                            replace H := Option.bind_eq_some_iff.mp H
                            obtain ⟨⟨t201, t202⟩, A200, H⟩ := H
                            replace H : (if (x3_1 ++ (rdOf ByteArray.empty y197 (ji16))).size + (((⟨#[120]⟩ : ByteArray) ++ t196) ++ (⟨#[95, 89]⟩ : ByteArray)).size ≤ 9223372036854775807 then (if x4_1.length < 2932031007402 then (palingslaw02_LexPieces.l0 k1 ((x3_1 ++ (rdOf ByteArray.empty y197 (ji16))) ++ (((⟨#[120]⟩ : ByteArray) ++ t196) ++ (⟨#[95, 89]⟩ : ByteArray))) (x4_1 ++ [(⟨1, ((⟨#[120]⟩ : ByteArray) ++ t196) ++ (⟨#[95, 89]⟩ : ByteArray), 0, (⟨t201, t202⟩ : S26)⟩ : S34)]) l0 (l0.length : Int) (wrap64 (x21_1 + 1))) else (none)) else (none)) = some r := H
                            rw [ByteArray.size_append, Int.natCast_add] at A200
                            have A20 := Aside0.mk A200
                            clear A200
                            by_cases c21 : (x3_1 ++ (rdOf ByteArray.empty y197 (ji16))).size + (((⟨#[120]⟩ : ByteArray) ++ t196) ++ (⟨#[95, 89]⟩ : ByteArray)).size ≤ 9223372036854775807
                            · rw [if_pos c21] at H
                              have c21b0 := eq_true c21
                              have c21b1 : decide ((x3_1 ++ (rdOf ByteArray.empty y197 (ji16))).size + (((⟨#[120]⟩ : ByteArray) ++ t196) ++ (⟨#[95, 89]⟩ : ByteArray)).size ≤ 9223372036854775807) = true := decide_eq_true c21
                              try have c21b2 : (9223372036854775807 < (x3_1 ++ (rdOf ByteArray.empty y197 (ji16))).size + (((⟨#[120]⟩ : ByteArray) ++ t196) ++ (⟨#[95, 89]⟩ : ByteArray)).size) = False := eq_false (Nat.not_lt.2 c21)
                              try (have c21b3 := c21; simp only [ByteArray.size_append, show (⟨#[120]⟩ : ByteArray).size = 1 from rfl, show (⟨#[95, 89]⟩ : ByteArray).size = 2 from rfl] at c21b3; replace c21b3 := eq_false (Nat.not_lt.2 c21b3))
                              by_cases c22 : x4_1.length < 2932031007402
                              · rw [if_pos c22] at H
                                have LMc22 := Aside0.mk c22
                                clear c22
                                obtain ⟨y203, hy203⟩ : ∃ y_ : List (S34), y_ = (x4_1 ++ [(⟨1, ((⟨#[120]⟩ : ByteArray) ++ t196) ++ (⟨#[95, 89]⟩ : ByteArray), 0, (⟨t201, t202⟩ : S26)⟩ : S34)]) := ⟨_, rfl⟩
                                replace H : (palingslaw02_LexPieces.l0 k1 ((x3_1 ++ (rdOf ByteArray.empty y197 (ji16))) ++ (((⟨#[120]⟩ : ByteArray) ++ t196) ++ (⟨#[95, 89]⟩ : ByteArray))) y203 l0 (l0.length : Int) (wrap64 (x21_1 + 1))) = some r := by first | (rw [hy203]; with_reducible exact H) | (have H2_ := (Option.bind_some _ _).symm.trans H; rw [hy203]; with_reducible exact H2_) | (have H2_ := (Option.bind_some _ _).symm.trans H; with_reducible exact H2_) | with_reducible exact H | (rw [hy203]; exact H) | exact H
                                have Ny203 := Aside0.mk hy203
                                clear hy203
                                have H' := Aside0.mk H
                                clear H
                                have p193 : 0 ≤ (x21_1 : Int) := of_decide_eq_true (by first | (with_reducible assumption) | assumption)
                                have q193 : x21_1 < (l0.length : Int) := of_decide_eq_true (by first | (with_reducible assumption) | assumption)
                                obtain ⟨ad193, e193, hx193_0, hx193_1, hx193_2⟩ := at_T45 HR0.out x21_1 p193 q193
                                cases e193
                                replace hx193_0 := (HB.out.cell (World.block_lt_of_cell? w _ hx193_0)).trans hx193_0
                                replace hx193_1 := (HB.out.cell (World.block_lt_of_cell? w _ hx193_1)).trans hx193_1
                                replace hx193_2 := (HB.out.cell (World.block_lt_of_cell? w _ hx193_2)).trans hx193_2
                                replace p193 := eq_true p193
                                replace q193 := eq_true q193
                                iterate 8 ((try go_quiet (fail)); go_wp2_with (first | ((with_reducible refine gate_dst (N := 6) rfl ?_); (try (refine gate_guard (by rfl) ?_; dsimp only)); refine box_event ?hg (N := 6) ?hd (cs := #[.int .i64 0, .int .i64 0, .int .i64 0]) (t := 45) ?hr ?_; (case hd => rfl); (case hg => rfl); (case hr => first | (go_simp; done) | (go_simp; rfl)); intro gb194 hg w23 hbox hb; have n0_ := Aside0.mk (Kd.R_below (by (with_reducible repeat (first | apply Kd.R_alloc | apply Kd.R_drewN | apply Kd.R_drew)); exact HO_4.out) hb); have n1_ := Aside0.mk (below_step (by repeat (first | (with_reducible first | exact HB.out | apply below_alloc | apply pw_below_drewN | apply below_drew1) | exact HB.out)) hb); have n2_ := Aside0.mk (hbox); have n3_ := Aside0.mk ((by rw [hg]; exact (below_size (by repeat (first | (with_reducible first | exact HB.out | apply below_alloc | apply pw_below_drewN | apply below_drew1) | exact HB.out))) : w.heap.size ≤ gb194)); have n4_ := Aside0.mk ((by rw [hg]; exact (below_size (by repeat (first | (with_reducible first | exact HB.out | apply below_alloc | apply pw_below_drewN | apply below_drew1) | exact HB.out))) : w.heap.size ≤ gb194)); clear HO_4; clear HB; have HO_4 := n0_; have HB := n1_; have BK194 := n2_; have GW194 := n3_; have GE194 := n4_; clear n0_ n1_ n2_ n3_ n4_; clear hb hbox hg; have hcz24_0 : w23.cell? ⟨gb194, 0, none⟩ = some (.int .i64 0) := (blk_cell BK194.out 0).trans rfl; have hcz24_1 : w23.cell? ⟨gb194, 1, none⟩ = some (.int .i64 0) := (blk_cell BK194.out 1).trans rfl; have hcz24_2 : w23.cell? ⟨gb194, 2, none⟩ = some (.int .i64 0) := (blk_cell BK194.out 2).trans rfl; have hfz24_0 := blk_frozen BK194.out 0; have hfz24_1 := blk_frozen BK194.out 1; have hfz24_2 := blk_frozen BK194.out 2) | ((with_reducible refine gate_dst (N := 9) rfl ?_); (try (refine gate_guard (by rfl) ?_; dsimp only)); refine box_event ?hg (N := 9) ?hd (cs := #[.int .i64 0, .string (⟨#[]⟩ : ByteArray), .int .i64 0, .int .i64 0, .int .i64 0]) (t := 34) ?hr ?_; (case hd => rfl); (case hg => rfl); (case hr => first | (go_simp; done) | (go_simp; rfl)); intro gb195 hg w25 hbox hb; have n0_ := Aside0.mk (Kd.R_below (Kd.R_elderB (by (with_reducible repeat (first | apply Kd.R_alloc | apply Kd.R_drewN | apply Kd.R_drew)); exact (Kd.R_mono (Kd.R_far (p := ⟨gb194, 2, none⟩) (Kd.R_far (p := ⟨gb194, 1, none⟩) (Kd.R_far (p := ⟨gb194, 0, none⟩) (Kd.R_types HO_4.out BK194.out (by decide)) (fun _ hk => hk.2) (.int .i64 ((rd_T45 l0 x21_1).f0))) (fun _ hk => hk.2) (.int .i64 ((rd_T45 l0 x21_1).f1))) (fun _ hk => hk.2) (.int .i64 ((rd_T45 l0 x21_1).f2))) (fun _ h_ => h_.1))) gb195 (Nat.le_of_eq hg.symm)) hb); have n1_ := Aside0.mk (blk_below (g := gb194) (o := .cells #[.int .i64 ((rd_T45 l0 x21_1).f0), .int .i64 ((rd_T45 l0 x21_1).f1), .int .i64 ((rd_T45 l0 x21_1).f2)] 45 (0, 0)) (by (with_reducible repeat (first | refine blk_drewN ?_ _ | refine blk_drew ?_ | refine blk_alloc ?_ _)); refine blk_put (cs := #[.int .i64 ((rd_T45 l0 x21_1).f0), .int .i64 ((rd_T45 l0 x21_1).f1), .int .i64 0]) ?_ 2 _ rfl; (with_reducible repeat (first | refine blk_drewN ?_ _ | refine blk_drew ?_ | refine blk_alloc ?_ _)); refine blk_put (cs := #[.int .i64 ((rd_T45 l0 x21_1).f0), .int .i64 0, .int .i64 0]) ?_ 1 _ rfl; (with_reducible repeat (first | refine blk_drewN ?_ _ | refine blk_drew ?_ | refine blk_alloc ?_ _)); refine blk_put (cs := #[.int .i64 0, .int .i64 0, .int .i64 0]) ?_ 0 _ rfl; (with_reducible repeat (first | refine blk_drewN ?_ _ | refine blk_drew ?_ | refine blk_alloc ?_ _)); exact BK194.out) hb); have n2_ := Aside0.mk (below_step (by repeat (first | (with_reducible first | exact HB.out | apply below_alloc | apply pw_below_drewN | apply below_drew1 | refine below_set ?_ GE194.out) | exact HB.out)) hb); have n3_ := Aside0.mk (hbox); have n4_ := Aside0.mk ((by rw [hg]; exact (below_size (by repeat (first | (with_reducible first | exact HB.out | apply below_alloc | apply pw_below_drewN | apply below_drew1 | refine below_set ?_ GE194.out) | exact HB.out))) : w.heap.size ≤ gb195)); have n5_ := Aside0.mk ((by rw [hg]; exact (below_size (by repeat (first | (with_reducible first | exact HB.out | apply below_alloc | apply pw_below_drewN | apply below_drew1 | refine below_set ?_ GE194.out) | exact HB.out))) : w.heap.size ≤ gb195)); have n6_ := Aside0.mk ((by rw [hg]; exact Nat.ne_of_lt (blk_lt (g := gb194) (o := .cells #[.int .i64 ((rd_T45 l0 x21_1).f0), .int .i64 ((rd_T45 l0 x21_1).f1), .int .i64 ((rd_T45 l0 x21_1).f2)] 45 (0, 0)) (by (with_reducible repeat (first | refine blk_drewN ?_ _ | refine blk_drew ?_ | refine blk_alloc ?_ _)); refine blk_put (cs := #[.int .i64 ((rd_T45 l0 x21_1).f0), .int .i64 ((rd_T45 l0 x21_1).f1), .int .i64 0]) ?_ 2 _ rfl; (with_reducible repeat (first | refine blk_drewN ?_ _ | refine blk_drew ?_ | refine blk_alloc ?_ _)); refine blk_put (cs := #[.int .i64 ((rd_T45 l0 x21_1).f0), .int .i64 0, .int .i64 0]) ?_ 1 _ rfl; (with_reducible repeat (first | refine blk_drewN ?_ _ | refine blk_drew ?_ | refine blk_alloc ?_ _)); refine blk_put (cs := #[.int .i64 0, .int .i64 0, .int .i64 0]) ?_ 0 _ rfl; (with_reducible repeat (first | refine blk_drewN ?_ _ | refine blk_drew ?_ | refine blk_alloc ?_ _)); exact BK194.out)) : gb194 ≠ gb195)); have n7_ := Aside0.mk ((by rw [hg]; exact Nat.ne_of_gt (blk_lt (g := gb194) (o := .cells #[.int .i64 ((rd_T45 l0 x21_1).f0), .int .i64 ((rd_T45 l0 x21_1).f1), .int .i64 ((rd_T45 l0 x21_1).f2)] 45 (0, 0)) (by (with_reducible repeat (first | refine blk_drewN ?_ _ | refine blk_drew ?_ | refine blk_alloc ?_ _)); refine blk_put (cs := #[.int .i64 ((rd_T45 l0 x21_1).f0), .int .i64 ((rd_T45 l0 x21_1).f1), .int .i64 0]) ?_ 2 _ rfl; (with_reducible repeat (first | refine blk_drewN ?_ _ | refine blk_drew ?_ | refine blk_alloc ?_ _)); refine blk_put (cs := #[.int .i64 ((rd_T45 l0 x21_1).f0), .int .i64 0, .int .i64 0]) ?_ 1 _ rfl; (with_reducible repeat (first | refine blk_drewN ?_ _ | refine blk_drew ?_ | refine blk_alloc ?_ _)); refine blk_put (cs := #[.int .i64 0, .int .i64 0, .int .i64 0]) ?_ 0 _ rfl; (with_reducible repeat (first | refine blk_drewN ?_ _ | refine blk_drew ?_ | refine blk_alloc ?_ _)); exact BK194.out)) : gb195 ≠ gb194)); clear HO_4; clear BK194; clear HB; have HO_4 := n0_; have BK194 := n1_; have HB := n2_; have BK195 := n3_; have GW195 := n4_; have GE195 := n5_; have NB194_195 := n6_; have NB195_194 := n7_; clear n0_ n1_ n2_ n3_ n4_ n5_ n6_ n7_; clear hb hbox hg; have hnb26 := NB195_194.out; have hnc26 := NB194_195.out; have hcz27_0 : w25.cell? ⟨gb195, 0, none⟩ = some (.int .i64 0) := (blk_cell BK195.out 0).trans rfl; have hcz27_1 : w25.cell? ⟨gb195, 1, none⟩ = some (.string (⟨#[]⟩ : ByteArray)) := (blk_cell BK195.out 1).trans rfl; have hcz27_2 : w25.cell? ⟨gb195, 2, none⟩ = some (.int .i64 0) := (blk_cell BK195.out 2).trans rfl; have hcz27_3 : w25.cell? ⟨gb195, 3, none⟩ = some (.int .i64 0) := (blk_cell BK195.out 3).trans rfl; have hcz27_4 : w25.cell? ⟨gb195, 4, none⟩ = some (.int .i64 0) := (blk_cell BK195.out 4).trans rfl; have hfz27_0 := blk_frozen BK195.out 0; have hfz27_1 := blk_frozen BK195.out 1; have hfz27_2 := blk_frozen BK195.out 2; have hfz27_3 := blk_frozen BK195.out 3; have hfz27_4 := blk_frozen BK195.out 4; have hcz28_0 : w25.cell? ⟨gb194, 0, none⟩ = some (.int .i64 ((rd_T45 l0 x21_1).f0)) := (blk_cell BK194.out 0).trans rfl; have hcz28_1 : w25.cell? ⟨gb194, 1, none⟩ = some (.int .i64 ((rd_T45 l0 x21_1).f1)) := (blk_cell BK194.out 1).trans rfl; have hcz28_2 : w25.cell? ⟨gb194, 2, none⟩ = some (.int .i64 ((rd_T45 l0 x21_1).f2)) := (blk_cell BK194.out 2).trans rfl; have hfz28_0 := blk_frozen BK194.out 0; have hfz28_1 := blk_frozen BK194.out 1; have hfz28_2 := blk_frozen BK194.out 2) | (go_at_call 15; (with_reducible refine (strconv_Itoa.calls (Go.bits .and .i64 ((rd_T45 l0 x21_1).f1) 65535) t196 _ ?sideG A13.out).mono ?_); (case sideG => exact tab_below GP.out (by repeat (first | (with_reducible first | exact HB.out | apply below_alloc | apply pw_below_drewN | apply below_drew1 | refine below_set ?_ GE194.out | refine below_set ?_ GE195.out) | exact HB.out))); rintro e w29 ⟨rfl, hb⟩; have n0_ := Aside0.mk (Kd.R_below (by (with_reducible repeat (first | apply Kd.R_alloc | apply Kd.R_drewN | apply Kd.R_drew)); exact (Kd.R_mono (Kd.R_far (p := ⟨gb195, 4, none⟩) (Kd.R_far (p := ⟨gb195, 3, none⟩) (Kd.R_far (p := ⟨gb195, 2, none⟩) (Kd.R_far (p := ⟨gb195, 1, none⟩) (Kd.R_far (p := ⟨gb195, 0, none⟩) (Kd.R_mono HO_4.out (fun k_ hk => (⟨hk, hk.2⟩ : _ ∧ k_ ≠ gb195))) (fun _ hk => hk.2) (.int .i64 0)) (fun _ hk => hk.2) (.string (⟨#[]⟩ : ByteArray))) (fun _ hk => hk.2) (.int .i64 0)) (fun _ hk => hk.2) (.int .i64 0)) (fun _ hk => hk.2) (.int .i64 0)) (fun _ h_ => h_.1))) hb); have n1_ := Aside0.mk (blk_below (g := gb194) (o := .cells #[.int .i64 ((rd_T45 l0 x21_1).f0), .int .i64 ((rd_T45 l0 x21_1).f1), .int .i64 ((rd_T45 l0 x21_1).f2)] 45 (0, 0)) (by (with_reducible repeat (first | refine blk_drewN ?_ _ | refine blk_drew ?_ | refine blk_alloc ?_ _)); refine blk_far ?_ NB194_195.out _; (with_reducible repeat (first | refine blk_drewN ?_ _ | refine blk_drew ?_ | refine blk_alloc ?_ _)); refine blk_far ?_ NB194_195.out _; (with_reducible repeat (first | refine blk_drewN ?_ _ | refine blk_drew ?_ | refine blk_alloc ?_ _)); refine blk_far ?_ NB194_195.out _; (with_reducible repeat (first | refine blk_drewN ?_ _ | refine blk_drew ?_ | refine blk_alloc ?_ _)); refine blk_far ?_ NB194_195.out _; (with_reducible repeat (first | refine blk_drewN ?_ _ | refine blk_drew ?_ | refine blk_alloc ?_ _)); refine blk_far ?_ NB194_195.out _; (with_reducible repeat (first | refine blk_drewN ?_ _ | refine blk_drew ?_ | refine blk_alloc ?_ _)); exact BK194.out) hb); have n2_ := Aside0.mk (blk_below (g := gb195) (o := .cells #[.int .i64 0, .string (⟨#[]⟩ : ByteArray), .int .i64 0, .int .i64 0, .int .i64 0] 34 (0, 0)) (by (with_reducible repeat (first | refine blk_drewN ?_ _ | refine blk_drew ?_ | refine blk_alloc ?_ _)); refine blk_put (cs := #[.int .i64 0, .string (⟨#[]⟩ : ByteArray), .int .i64 0, .int .i64 0, .int .i64 0]) ?_ 4 _ rfl; (with_reducible repeat (first | refine blk_drewN ?_ _ | refine blk_drew ?_ | refine blk_alloc ?_ _)); refine blk_put (cs := #[.int .i64 0, .string (⟨#[]⟩ : ByteArray), .int .i64 0, .int .i64 0, .int .i64 0]) ?_ 3 _ rfl; (with_reducible repeat (first | refine blk_drewN ?_ _ | refine blk_drew ?_ | refine blk_alloc ?_ _)); refine blk_put (cs := #[.int .i64 0, .string (⟨#[]⟩ : ByteArray), .int .i64 0, .int .i64 0, .int .i64 0]) ?_ 2 _ rfl; (with_reducible repeat (first | refine blk_drewN ?_ _ | refine blk_drew ?_ | refine blk_alloc ?_ _)); refine blk_put (cs := #[.int .i64 0, .string (⟨#[]⟩ : ByteArray), .int .i64 0, .int .i64 0, .int .i64 0]) ?_ 1 _ rfl; (with_reducible repeat (first | refine blk_drewN ?_ _ | refine blk_drew ?_ | refine blk_alloc ?_ _)); refine blk_put (cs := #[.int .i64 0, .string (⟨#[]⟩ : ByteArray), .int .i64 0, .int .i64 0, .int .i64 0]) ?_ 0 _ rfl; (with_reducible repeat (first | refine blk_drewN ?_ _ | refine blk_drew ?_ | refine blk_alloc ?_ _)); exact BK195.out) hb); have n3_ := Aside0.mk (below_step (by repeat (first | (with_reducible first | exact HB.out | apply below_alloc | apply pw_below_drewN | apply below_drew1 | refine below_set ?_ GE194.out | refine below_set ?_ GE195.out) | exact HB.out)) hb); clear HO_4; clear BK194; clear BK195; clear HB; have HO_4 := n0_; have BK194 := n1_; have BK195 := n2_; have HB := n3_; clear n0_ n1_ n2_ n3_; (try clear hb); (try clear hb2); (try clear hk); (try clear hi); have hcz30_0 : w29.cell? ⟨gb195, 0, none⟩ = some (.int .i64 0) := (blk_cell BK195.out 0).trans rfl; have hcz30_1 : w29.cell? ⟨gb195, 1, none⟩ = some (.string (⟨#[]⟩ : ByteArray)) := (blk_cell BK195.out 1).trans rfl; have hcz30_2 : w29.cell? ⟨gb195, 2, none⟩ = some (.int .i64 0) := (blk_cell BK195.out 2).trans rfl; have hcz30_3 : w29.cell? ⟨gb195, 3, none⟩ = some (.int .i64 0) := (blk_cell BK195.out 3).trans rfl; have hcz30_4 : w29.cell? ⟨gb195, 4, none⟩ = some (.int .i64 0) := (blk_cell BK195.out 4).trans rfl; have hfz30_0 := blk_frozen BK195.out 0; have hfz30_1 := blk_frozen BK195.out 1; have hfz30_2 := blk_frozen BK195.out 2; have hfz30_3 := blk_frozen BK195.out 3; have hfz30_4 := blk_frozen BK195.out 4) | ((with_reducible refine gate_dst (N := 65) rfl ?_); (try (refine gate_guard (by rfl) ?_; dsimp only)); refine Kd.R_lit Kd.string _ 9 ?hg (N := 65) ?hd (xs := ([(⟨#[32]⟩ : ByteArray), (⟨#[10]⟩ : ByteArray), (⟨#[9, 32, 13, 10]⟩ : ByteArray), (⟨#[32, 47, 47, 32, 110, 111, 32, 116, 111, 107, 101, 110, 32, 38, 38, 32, 53, 10]⟩ : ByteArray), (⟨#[10, 47, 47, 10]⟩ : ByteArray)] : List ByteArray)) (inner := [.string (⟨#[32]⟩ : ByteArray), .string (⟨#[10]⟩ : ByteArray), .string (⟨#[9, 32, 13, 10]⟩ : ByteArray), .string (⟨#[32, 47, 47, 32, 110, 111, 32, 116, 111, 107, 101, 110, 32, 38, 38, 32, 53, 10]⟩ : ByteArray), .string (⟨#[10, 47, 47, 10]⟩ : ByteArray)]) (ok := fun _ => True) (okp := fun _ => True) ?hr ?hp (fun _ hk => hk) trivial (Below.refl _ _) (Nat.le_refl _) (by simp) ?_; (case hd => rfl); (case hg => rfl); (case hr => first | (go_simp; done) | (go_simp; rfl)); (case hp => exact (Reps.one (show Kd.M Kd.string _ _ _ (⟨#[32]⟩ : ByteArray) [.string (⟨#[32]⟩ : ByteArray)] from rfl) (Reps.one (show Kd.M Kd.string _ _ _ (⟨#[10]⟩ : ByteArray) [.string (⟨#[10]⟩ : ByteArray)] from rfl) (Reps.one (show Kd.M Kd.string _ _ _ (⟨#[9, 32, 13, 10]⟩ : ByteArray) [.string (⟨#[9, 32, 13, 10]⟩ : ByteArray)] from rfl) (Reps.one (show Kd.M Kd.string _ _ _ (⟨#[32, 47, 47, 32, 110, 111, 32, 116, 111, 107, 101, 110, 32, 38, 38, 32, 53, 10]⟩ : ByteArray) [.string (⟨#[32, 47, 47, 32, 110, 111, 32, 116, 111, 107, 101, 110, 32, 38, 38, 32, 53, 10]⟩ : ByteArray)] from rfl) (Reps.one (show Kd.M Kd.string _ _ _ (⟨#[10, 47, 47, 10]⟩ : ByteArray) [.string (⟨#[10, 47, 47, 10]⟩ : ByteArray)] from rfl) (Reps.none _ _))))))); intro v198 w31 ho32 hb hg_ hnew_; clear hg_ hnew_; (first | rw [← Ny197.out] at ho32 | (simp only [Int.reduceToNat] at ho32; rw [← Ny197.out] at ho32)); have n0_ := Aside0.mk (Kd.R_below (by (with_reducible repeat (first | apply Kd.R_alloc | apply Kd.R_drewN | apply Kd.R_drew)); exact (Kd.R_mono (Kd.R_far (p := ⟨gb195, 0, none⟩) (Kd.R_mono HO_4.out (fun k_ hk => (⟨hk, hk.2⟩ : _ ∧ k_ ≠ gb195))) (fun _ hk => hk.2) (.int .i64 1)) (fun _ h_ => h_.1))) hb); have n1_ := Aside0.mk (Kd.R_lower ho32 (below_size (by repeat (first | (with_reducible first | exact HB.out | apply below_alloc | apply pw_below_drewN | apply below_drew1 | refine below_set ?_ GE194.out | refine below_set ?_ GE195.out) | exact HB.out)))); have n2_ := Aside0.mk (blk_below (g := gb194) (o := .cells #[.int .i64 ((rd_T45 l0 x21_1).f0), .int .i64 ((rd_T45 l0 x21_1).f1), .int .i64 ((rd_T45 l0 x21_1).f2)] 45 (0, 0)) (by (with_reducible repeat (first | refine blk_drewN ?_ _ | refine blk_drew ?_ | refine blk_alloc ?_ _)); refine blk_far ?_ NB194_195.out _; (with_reducible repeat (first | refine blk_drewN ?_ _ | refine blk_drew ?_ | refine blk_alloc ?_ _)); exact BK194.out) hb); have n3_ := Aside0.mk (blk_below (g := gb195) (o := .cells #[.int .i64 1, .string (⟨#[]⟩ : ByteArray), .int .i64 0, .int .i64 0, .int .i64 0] 34 (0, 0)) (by (with_reducible repeat (first | refine blk_drewN ?_ _ | refine blk_drew ?_ | refine blk_alloc ?_ _)); refine blk_put (cs := #[.int .i64 0, .string (⟨#[]⟩ : ByteArray), .int .i64 0, .int .i64 0, .int .i64 0]) ?_ 0 _ rfl; (with_reducible repeat (first | refine blk_drewN ?_ _ | refine blk_drew ?_ | refine blk_alloc ?_ _)); exact BK195.out) hb); have n4_ := Aside0.mk (below_step (by repeat (first | (with_reducible first | exact HB.out | apply below_alloc | apply pw_below_drewN | apply below_drew1 | refine below_set ?_ GE194.out | refine below_set ?_ GE195.out) | exact HB.out)) hb); clear HO_4; clear BK194; clear BK195; clear HB; have HO_4 := n0_; have HO199 := n1_; have BK194 := n2_; have BK195 := n3_; have HB := n4_; clear n0_ n1_ n2_ n3_ n4_; clear hb ho32; have hcz33_0 : w31.cell? ⟨gb194, 0, none⟩ = some (.int .i64 ((rd_T45 l0 x21_1).f0)) := (blk_cell BK194.out 0).trans rfl; have hcz33_1 : w31.cell? ⟨gb194, 1, none⟩ = some (.int .i64 ((rd_T45 l0 x21_1).f1)) := (blk_cell BK194.out 1).trans rfl; have hcz33_2 : w31.cell? ⟨gb194, 2, none⟩ = some (.int .i64 ((rd_T45 l0 x21_1).f2)) := (blk_cell BK194.out 2).trans rfl; have hfz33_0 := blk_frozen BK194.out 0; have hfz33_1 := blk_frozen BK194.out 1; have hfz33_2 := blk_frozen BK194.out 2; obtain ⟨Ao34, co34, eo34⟩ := Kd.R_slice HO199.out; subst eo34; have p200 : 0 ≤ ((ji16) : Int) := of_decide_eq_true (by first | (with_reducible assumption) | assumption); have q200 : (ji16) < (y197.length : Int) := of_decide_eq_true (by first | (with_reducible assumption) | assumption); obtain ⟨ad200, e200, hx200_0⟩ := Kd.at_string (Kd.R_reads' HO199.out).2.2 (ji16) p200 q200; cases e200; replace p200 := eq_true p200; replace q200 := eq_true q200; have hcz35_0 : w31.cell? ⟨gb195, 0, none⟩ = some (.int .i64 1) := (blk_cell BK195.out 0).trans rfl; have hcz35_1 : w31.cell? ⟨gb195, 1, none⟩ = some (.string (⟨#[]⟩ : ByteArray)) := (blk_cell BK195.out 1).trans rfl; have hcz35_2 : w31.cell? ⟨gb195, 2, none⟩ = some (.int .i64 0) := (blk_cell BK195.out 2).trans rfl; have hcz35_3 : w31.cell? ⟨gb195, 3, none⟩ = some (.int .i64 0) := (blk_cell BK195.out 3).trans rfl; have hcz35_4 : w31.cell? ⟨gb195, 4, none⟩ = some (.int .i64 0) := (blk_cell BK195.out 4).trans rfl; have hfz35_0 := blk_frozen BK195.out 0; have hfz35_1 := blk_frozen BK195.out 1; have hfz35_2 := blk_frozen BK195.out 2; have hfz35_3 := blk_frozen BK195.out 3; have hfz35_4 := blk_frozen BK195.out 4) | (go_at_call 13; (with_reducible refine (palingslaw02_place.calls k1 (x3_1 ++ (rdOf ByteArray.empty y197 (ji16))) ((x3_1.size : Int) + ((rdOf ByteArray.empty y197 (ji16)).size : Int)) t201 t202 _ A20.out).mono ?_); rintro e w36 ⟨rfl, hb⟩; have n0_ := Aside0.mk (Kd.R_below (by (with_reducible repeat (first | apply Kd.R_alloc | apply Kd.R_drewN | apply Kd.R_drew)); exact (Kd.R_mono (Kd.R_far (p := ⟨gb195, 1, none⟩) (Kd.R_mono HO_4.out (fun k_ hk => (⟨hk, hk.2⟩ : _ ∧ k_ ≠ gb195))) (fun _ hk => hk.2) (.string (((⟨#[120]⟩ : ByteArray) ++ t196) ++ (⟨#[95, 89]⟩ : ByteArray)))) (fun _ h_ => h_.1))) hb); have n1_ := Aside0.mk (Kd.R_below (by (with_reducible repeat (first | apply Kd.R_alloc | apply Kd.R_drewN | apply Kd.R_drew)); exact (Kd.R_mono (Kd.R_far (p := ⟨gb195, 1, none⟩) (Kd.R_types HO199.out BK195.out (by decide)) (fun _ hk => hk.2) (.string (((⟨#[120]⟩ : ByteArray) ++ t196) ++ (⟨#[95, 89]⟩ : ByteArray)))) (fun _ h_ => h_.1))) hb); have n2_ := Aside0.mk (blk_below (g := gb194) (o := .cells #[.int .i64 ((rd_T45 l0 x21_1).f0), .int .i64 ((rd_T45 l0 x21_1).f1), .int .i64 ((rd_T45 l0 x21_1).f2)] 45 (0, 0)) (by (with_reducible repeat (first | refine blk_drewN ?_ _ | refine blk_drew ?_ | refine blk_alloc ?_ _)); refine blk_far ?_ NB194_195.out _; (with_reducible repeat (first | refine blk_drewN ?_ _ | refine blk_drew ?_ | refine blk_alloc ?_ _)); exact BK194.out) hb); have n3_ := Aside0.mk (blk_below (g := gb195) (o := .cells #[.int .i64 1, .string (((⟨#[120]⟩ : ByteArray) ++ t196) ++ (⟨#[95, 89]⟩ : ByteArray)), .int .i64 0, .int .i64 0, .int .i64 0] 34 (0, 0)) (by (with_reducible repeat (first | refine blk_drewN ?_ _ | refine blk_drew ?_ | refine blk_alloc ?_ _)); refine blk_put (cs := #[.int .i64 1, .string (⟨#[]⟩ : ByteArray), .int .i64 0, .int .i64 0, .int .i64 0]) ?_ 1 _ rfl; (with_reducible repeat (first | refine blk_drewN ?_ _ | refine blk_drew ?_ | refine blk_alloc ?_ _)); exact BK195.out) hb); have n4_ := Aside0.mk (below_step (by repeat (first | (with_reducible first | exact HB.out | apply below_alloc | apply pw_below_drewN | apply below_drew1 | refine below_set ?_ GE194.out | refine below_set ?_ GE195.out) | exact HB.out)) hb); clear HO_4; clear HO199; clear BK194; clear BK195; clear HB; have HO_4 := n0_; have HO199 := n1_; have BK194 := n2_; have BK195 := n3_; have HB := n4_; clear n0_ n1_ n2_ n3_ n4_; (try clear hb); (try clear hb2); (try clear hk); (try clear hi); have hcz37_0 : w36.cell? ⟨gb195, 0, none⟩ = some (.int .i64 1) := (blk_cell BK195.out 0).trans rfl; have hcz37_1 : w36.cell? ⟨gb195, 1, none⟩ = some (.string (((⟨#[120]⟩ : ByteArray) ++ t196) ++ (⟨#[95, 89]⟩ : ByteArray))) := (blk_cell BK195.out 1).trans rfl; have hcz37_2 : w36.cell? ⟨gb195, 2, none⟩ = some (.int .i64 0) := (blk_cell BK195.out 2).trans rfl; have hcz37_3 : w36.cell? ⟨gb195, 3, none⟩ = some (.int .i64 0) := (blk_cell BK195.out 3).trans rfl; have hcz37_4 : w36.cell? ⟨gb195, 4, none⟩ = some (.int .i64 0) := (blk_cell BK195.out 4).trans rfl; have hfz37_0 := blk_frozen BK195.out 0; have hfz37_1 := blk_frozen BK195.out 1; have hfz37_2 := blk_frozen BK195.out 2; have hfz37_3 := blk_frozen BK195.out 3; have hfz37_4 := blk_frozen BK195.out 4) | ((with_reducible refine gate_builtin (b := .append) (xs := #[.tmp 84, .tmp 86]) rfl ?_); (try (refine gate_guard (by rfl) ?_; dsimp only)); at_builtin; refine Kd.R_append k34 (w0 := w) w.heap.size rfl (.tmp 84) (.tmp 86) 23 34 (.agg #[(.int .i64 0), (.string ⟨#[]⟩), (.int .i64 0), (.int .i64 0), (.int .i64 0)]) 48 rfl Tryd.underlying23 info34 rfl (by decide) (by omega) u4 x4_1 (⟨1, ((⟨#[120]⟩ : ByteArray) ++ t196) ++ (⟨#[95, 89]⟩ : ByteArray), 0, (⟨t201, t202⟩ : S26)⟩ : S34) [.int .i64 1, .string (((⟨#[120]⟩ : ByteArray) ++ t196) ++ (⟨#[95, 89]⟩ : ByteArray)), .int .i64 0, .int .i64 t201, .int .i64 t202] (fun k_ => k_ ≠ gb195) (fun _ => False) rfl (by first | (go_simp; done) | (go_simp; rfl)) ?aP (fun _ hk => hk.elim) ?aF ?aO ?aB ?aS ?aL ?_; (case aP => exact k34_mkM _ _ _ (⟨1, ((⟨#[120]⟩ : ByteArray) ++ t196) ++ (⟨#[95, 89]⟩ : ByteArray), 0, (⟨t201, t202⟩ : S26)⟩ : S34)); (case aB => exact (by repeat (first | (with_reducible first | exact HB.out | apply below_alloc | apply pw_below_drewN | apply below_drew1 | refine below_set ?_ GE194.out | refine below_set ?_ GE195.out) | exact HB.out))); (case aF => exact (fun k_ hk => Kd.freshB (g := gb195) (o := .cells #[.int .i64 1, .string (((⟨#[120]⟩ : ByteArray) ++ t196) ++ (⟨#[95, 89]⟩ : ByteArray)), .int .i64 0, .int .i64 t201, .int .i64 t202] 34 (0, 0)) (by (with_reducible repeat (first | refine blk_drewN ?_ _ | refine blk_drew ?_ | refine blk_alloc ?_ _)); refine blk_put (cs := #[.int .i64 1, .string (((⟨#[120]⟩ : ByteArray) ++ t196) ++ (⟨#[95, 89]⟩ : ByteArray)), .int .i64 0, .int .i64 t201, .int .i64 0]) ?_ 4 _ rfl; (with_reducible repeat (first | refine blk_drewN ?_ _ | refine blk_drew ?_ | refine blk_alloc ?_ _)); refine blk_put (cs := #[.int .i64 1, .string (((⟨#[120]⟩ : ByteArray) ++ t196) ++ (⟨#[95, 89]⟩ : ByteArray)), .int .i64 0, .int .i64 0, .int .i64 0]) ?_ 3 _ rfl; (with_reducible repeat (first | refine blk_drewN ?_ _ | refine blk_drew ?_ | refine blk_alloc ?_ _)); exact BK195.out) k_ hk)); (case aO => exact (by (with_reducible repeat (first | apply Kd.R_alloc | apply Kd.R_drewN | apply Kd.R_drew)); exact Kd.R_mono (Kd.R_far (p := ⟨gb195, 4, none⟩) (Kd.R_far (p := ⟨gb195, 3, none⟩) (Kd.R_mono HO_4.out (fun k_ hk => (⟨hk, hk.2⟩ : _ ∧ k_ ≠ gb195))) (fun _ hk => hk.2) (.int .i64 t201)) (fun _ hk => hk.2) (.int .i64 t202)) (fun _ hk => hk.1.2))); (case aS => exact (below_size (by repeat (first | (with_reducible first | exact HB.out | apply below_alloc | apply pw_below_drewN | apply below_drew1 | refine below_set ?_ GE194.out | refine below_set ?_ GE195.out) | exact HB.out)))); (case aL => have := LMc22.out; omega); intro v204 w38 ho hb hg hat; rw [← Ny203.out] at ho; have n0_ := Aside0.mk (blk_grown (g := gb194) (o := .cells #[.int .i64 ((rd_T45 l0 x21_1).f0), .int .i64 ((rd_T45 l0 x21_1).f1), .int .i64 ((rd_T45 l0 x21_1).f2)] 45 (0, 0)) (by (with_reducible repeat (first | refine blk_drewN ?_ _ | refine blk_drew ?_ | refine blk_alloc ?_ _)); refine blk_far ?_ NB194_195.out _; (with_reducible repeat (first | refine blk_drewN ?_ _ | refine blk_drew ?_ | refine blk_alloc ?_ _)); refine blk_far ?_ NB194_195.out _; (with_reducible repeat (first | refine blk_drewN ?_ _ | refine blk_drew ?_ | refine blk_alloc ?_ _)); exact BK194.out) hg (Kd.R_ne HO_4.out BK194.out (by decide))); have n1_ := Aside0.mk (blk_grown (g := gb195) (o := .cells #[.int .i64 1, .string (((⟨#[120]⟩ : ByteArray) ++ t196) ++ (⟨#[95, 89]⟩ : ByteArray)), .int .i64 0, .int .i64 t201, .int .i64 t202] 34 (0, 0)) (by (with_reducible repeat (first | refine blk_drewN ?_ _ | refine blk_drew ?_ | refine blk_alloc ?_ _)); refine blk_put (cs := #[.int .i64 1, .string (((⟨#[120]⟩ : ByteArray) ++ t196) ++ (⟨#[95, 89]⟩ : ByteArray)), .int .i64 0, .int .i64 t201, .int .i64 0]) ?_ 4 _ rfl; (with_reducible repeat (first | refine blk_drewN ?_ _ | refine blk_drew ?_ | refine blk_alloc ?_ _)); refine blk_put (cs := #[.int .i64 1, .string (((⟨#[120]⟩ : ByteArray) ++ t196) ++ (⟨#[95, 89]⟩ : ByteArray)), .int .i64 0, .int .i64 0, .int .i64 0]) ?_ 3 _ rfl; (with_reducible repeat (first | refine blk_drewN ?_ _ | refine blk_drew ?_ | refine blk_alloc ?_ _)); exact BK195.out) hg (Kd.R_away HO_4.out (fun _ hk => hk.2))); have n2_ := Aside0.mk (Kd.R_over' (by (with_reducible repeat (first | apply Kd.R_alloc | apply Kd.R_drewN | apply Kd.R_drew)); exact (Kd.R_mono (Kd.R_far (p := ⟨gb195, 4, none⟩) (Kd.R_far (p := ⟨gb195, 3, none⟩) (Kd.R_types HO199.out BK195.out (by decide)) (fun _ hk => hk.2) (.int .i64 t201)) (fun _ hk => hk.2) (.int .i64 t202)) (fun _ h_ => h_.1))) (Kd.R_typed (by (with_reducible repeat (first | apply Kd.R_alloc | apply Kd.R_drewN | apply Kd.R_drew)); exact (Kd.R_mono (Kd.R_far (p := ⟨gb195, 4, none⟩) (Kd.R_far (p := ⟨gb195, 3, none⟩) (Kd.R_mono HO_4.out (fun k_ hk => (⟨hk, hk.2⟩ : _ ∧ k_ ≠ gb195))) (fun _ hk => hk.2) (.int .i64 t201)) (fun _ hk => hk.2) (.int .i64 t202)) (fun _ h_ => h_.1)))) (by decide) hg); have n3_ := Aside0.mk (hb); have n4_ := Aside0.mk (ho); clear BK194; clear BK195; clear HO199; clear HB; clear HO_4; have BK194 := n0_; have BK195 := n1_; have HO199 := n2_; have HB := n3_; have HO205 := n4_; clear n0_ n1_ n2_ n3_ n4_; clear ho hb hg hat)))
                                go_roundg k1
                                case measure => have := HK1.out; omega
                                case rel => exact ⟨((x3_1 ++ (rdOf ByteArray.empty y197 (ji16))) ++ (((⟨#[120]⟩ : ByteArray) ++ t196) ++ (⟨#[95, 89]⟩ : ByteArray))), (y203), (wrap64 (x21_1 + 1)), (by first | rfl | (simp; done) | (simp only [← hji16] <;> (first | rfl | simp)) | (simp [*]; done)), (by first | rfl | (simp; done) | (simp [*]; done)), H', ⟨by have := HK1.out; omega⟩, ⟨by (with_reducible repeat (first | apply Kd.R_alloc | apply Kd.R_drewN | apply Kd.R_drew)); exact Kd.R_mono HO205.out (fun _ hk => trivial)⟩, ⟨by repeat (first | (with_reducible first | exact HB.out | apply below_alloc | apply pw_below_drewN | apply below_drew1 | refine below_set ?_ GE194.out | refine below_set ?_ GE195.out) | exact HB.out)⟩⟩
                              · rw [if_neg c22] at H
                                exact absurd H (by simp)
                            · rw [if_neg c21] at H
                              exact absurd H (by simp)
                          · rw [if_neg c19] at H
                            exact absurd H (by simp)
                        · rw [if_neg c18] at H
                          exact absurd H (by simp)
                      · rw [if_neg c17] at H
                        exact absurd H (by simp)
                    · rw [if_neg c15] at H
                      exact absurd H (by simp)
                  · rw [if_neg c14] at H
                    exact absurd H (by simp)
                · rw [if_neg c12] at H
                  have c12b0 : ((Go.bits .and .i64 ((rd_T45 l0 x21_1).f0) 3) == 0) = false := beq_eq_false_iff_ne.mpr c12
                  have c12b1 : ((Go.bits .and .i64 ((rd_T45 l0 x21_1).f0) 3) != 0) = true := bne_iff_ne.mpr c12
                  by_cases c39 : (Go.bits .and .i64 ((rd_T45 l0 x21_1).f0) 3) = 1
                  · rw [if_pos c39] at H
                    have c39b0 : ((Go.bits .and .i64 ((rd_T45 l0 x21_1).f0) 3) == 1) = true := beq_iff_eq.mpr c39
                    have c39b1 : ((Go.bits .and .i64 ((rd_T45 l0 x21_1).f0) 3) != 1) = false := bne_eq_false_iff_eq.mpr c39
                    clear c39
                    replace H := Option.bind_eq_some_iff.mp H
                    obtain ⟨t206, A400, H⟩ := H
                    replace H : ((some (([(⟨#[32]⟩ : ByteArray), (⟨#[10]⟩ : ByteArray), (⟨#[9, 32, 13, 10]⟩ : ByteArray), (⟨#[32, 47, 47, 32, 110, 111, 32, 116, 111, 107, 101, 110, 32, 38, 38, 32, 53, 10]⟩ : ByteArray), (⟨#[10, 47, 47, 10]⟩ : ByteArray)] : List ByteArray) : List ByteArray)).bind fun y207 => (if 0 ≤ (wrap64 (Int.tmod (IntKind.u64.wrap ((rd_T45 l0 x21_1).f2)) 5)) then (if (wrap64 (Int.tmod (IntKind.u64.wrap ((rd_T45 l0 x21_1).f2)) 5)) < (y207.length : Int) then (if x3_1.size + (rdOf ByteArray.empty y207 (wrap64 (Int.tmod (IntKind.u64.wrap ((rd_T45 l0 x21_1).f2)) 5))).size ≤ 9223372036854775807 then ((palingslaw02_place.f k1 (x3_1 ++ (rdOf ByteArray.empty y207 (wrap64 (Int.tmod (IntKind.u64.wrap ((rd_T45 l0 x21_1).f2)) 5)))) ((x3_1 ++ (rdOf ByteArray.empty y207 (wrap64 (Int.tmod (IntKind.u64.wrap ((rd_T45 l0 x21_1).f2)) 5)))).size : Int)).bind fun bt211 => (if (x3_1 ++ (rdOf ByteArray.empty y207 (wrap64 (Int.tmod (IntKind.u64.wrap ((rd_T45 l0 x21_1).f2)) 5)))).size + t206.size ≤ 9223372036854775807 then (if x4_1.length < 2932031007402 then (palingslaw02_LexPieces.l0 k1 ((x3_1 ++ (rdOf ByteArray.empty y207 (wrap64 (Int.tmod (IntKind.u64.wrap ((rd_T45 l0 x21_1).f2)) 5)))) ++ t206) (x4_1 ++ [(⟨2, t206, Go.bits .and .i64 ((rd_T45 l0 x21_1).f1) 65535, (⟨bt211.1, bt211.2⟩ : S26)⟩ : S34)]) l0 (l0.length : Int) (wrap64 (x21_1 + 1))) else (none)) else (none))) else (none)) else (none)) else (none))) = some r := H
                    have A40 := Aside0.mk A400
                    clear A400
                    obtain ⟨y207, hy207⟩ : ∃ y_ : List ByteArray, y_ = (([(⟨#[32]⟩ : ByteArray), (⟨#[10]⟩ : ByteArray), (⟨#[9, 32, 13, 10]⟩ : ByteArray), (⟨#[32, 47, 47, 32, 110, 111, 32, 116, 111, 107, 101, 110, 32, 38, 38, 32, 53, 10]⟩ : ByteArray), (⟨#[10, 47, 47, 10]⟩ : ByteArray)] : List ByteArray)) := ⟨_, rfl⟩
                    replace H : (if 0 ≤ (wrap64 (Int.tmod (IntKind.u64.wrap ((rd_T45 l0 x21_1).f2)) 5)) then (if (wrap64 (Int.tmod (IntKind.u64.wrap ((rd_T45 l0 x21_1).f2)) 5)) < (y207.length : Int) then (if x3_1.size + (rdOf ByteArray.empty y207 (wrap64 (Int.tmod (IntKind.u64.wrap ((rd_T45 l0 x21_1).f2)) 5))).size ≤ 9223372036854775807 then ((palingslaw02_place.f k1 (x3_1 ++ (rdOf ByteArray.empty y207 (wrap64 (Int.tmod (IntKind.u64.wrap ((rd_T45 l0 x21_1).f2)) 5)))) ((x3_1 ++ (rdOf ByteArray.empty y207 (wrap64 (Int.tmod (IntKind.u64.wrap ((rd_T45 l0 x21_1).f2)) 5)))).size : Int)).bind fun bt211 => (if (x3_1 ++ (rdOf ByteArray.empty y207 (wrap64 (Int.tmod (IntKind.u64.wrap ((rd_T45 l0 x21_1).f2)) 5)))).size + t206.size ≤ 9223372036854775807 then (if x4_1.length < 2932031007402 then (palingslaw02_LexPieces.l0 k1 ((x3_1 ++ (rdOf ByteArray.empty y207 (wrap64 (Int.tmod (IntKind.u64.wrap ((rd_T45 l0 x21_1).f2)) 5)))) ++ t206) (x4_1 ++ [(⟨2, t206, Go.bits .and .i64 ((rd_T45 l0 x21_1).f1) 65535, (⟨bt211.1, bt211.2⟩ : S26)⟩ : S34)]) l0 (l0.length : Int) (wrap64 (x21_1 + 1))) else (none)) else (none))) else (none)) else (none)) else (none)) = some r := by first | (rw [hy207]; with_reducible exact H) | (have H2_ := (Option.bind_some _ _).symm.trans H; rw [hy207]; with_reducible exact H2_) | (have H2_ := (Option.bind_some _ _).symm.trans H; with_reducible exact H2_) | with_reducible exact H | (rw [hy207]; exact H) | exact H
                    have Ny207 := Aside0.mk hy207
                    clear hy207
                    obtain ⟨ji41, hji41⟩ : ∃ j_ : Int, (wrap64 (Int.tmod (IntKind.u64.wrap ((rd_T45 l0 x21_1).f2)) 5)) = j_ := ⟨_, rfl⟩
                    replace H : (if 0 ≤ (ji41) then (if (ji41) < (y207.length : Int) then (if x3_1.size + (rdOf ByteArray.empty y207 (ji41)).size ≤ 9223372036854775807 then ((palingslaw02_place.f k1 (x3_1 ++ (rdOf ByteArray.empty y207 (ji41))) ((x3_1 ++ (rdOf ByteArray.empty y207 (ji41))).size : Int)).bind fun bt211 => (if (x3_1 ++ (rdOf ByteArray.empty y207 (ji41))).size + t206.size ≤ 9223372036854775807 then (if x4_1.length < 2932031007402 then (palingslaw02_LexPieces.l0 k1 ((x3_1 ++ (rdOf ByteArray.empty y207 (ji41))) ++ t206) (x4_1 ++ [(⟨2, t206, Go.bits .and .i64 ((rd_T45 l0 x21_1).f1) 65535, (⟨bt211.1, bt211.2⟩ : S26)⟩ : S34)]) l0 (l0.length : Int) (wrap64 (x21_1 + 1))) else (none)) else (none))) else (none)) else (none)) else (none)) = some r := by first | (rw [hji41] at H; exact H) | (simp only [hji41] at H ⊢; exact H)
                    (try rw [hji41] at A40)
                    have hji41w : (IntKind.i64.wrap (Int.tmod (IntKind.u64.wrap ((rd_T45 l0 x21_1).f2)) 5)) = ji41 := (i64_w _).trans hji41
                    by_cases c42 : 0 ≤ (ji41)
                    · rw [if_pos c42] at H
                      have c42b0 : decide (0 ≤ (ji41)) = true := decide_eq_true c42
                      clear c42
                      by_cases c43 : (ji41) < (y207.length : Int)
                      · rw [if_pos c43] at H
                        have c43b0 : decide ((ji41) < (y207.length : Int)) = true := decide_eq_true c43
                        clear c43
                        by_cases c44 : x3_1.size + (rdOf ByteArray.empty y207 (ji41)).size ≤ 9223372036854775807
                        · rw [if_pos c44] at H
                          have c44b0 := eq_true c44
                          have c44b1 : decide (x3_1.size + (rdOf ByteArray.empty y207 (ji41)).size ≤ 9223372036854775807) = true := decide_eq_true c44
                          try have c44b2 : (9223372036854775807 < x3_1.size + (rdOf ByteArray.empty y207 (ji41)).size) = False := eq_false (Nat.not_lt.2 c44)
                          replace H := Option.bind_eq_some_iff.mp H
                          obtain ⟨⟨t211, t212⟩, A450, H⟩ := H
                          replace H : (if (x3_1 ++ (rdOf ByteArray.empty y207 (ji41))).size + t206.size ≤ 9223372036854775807 then (if x4_1.length < 2932031007402 then (palingslaw02_LexPieces.l0 k1 ((x3_1 ++ (rdOf ByteArray.empty y207 (ji41))) ++ t206) (x4_1 ++ [(⟨2, t206, Go.bits .and .i64 ((rd_T45 l0 x21_1).f1) 65535, (⟨t211, t212⟩ : S26)⟩ : S34)]) l0 (l0.length : Int) (wrap64 (x21_1 + 1))) else (none)) else (none)) = some r := H
                          rw [ByteArray.size_append, Int.natCast_add] at A450
                          have A45 := Aside0.mk A450
                          clear A450
                          by_cases c46 : (x3_1 ++ (rdOf ByteArray.empty y207 (ji41))).size + t206.size ≤ 9223372036854775807
                          · rw [if_pos c46] at H
                            have c46b0 := eq_true c46
                            have c46b1 : decide ((x3_1 ++ (rdOf ByteArray.empty y207 (ji41))).size + t206.size ≤ 9223372036854775807) = true := decide_eq_true c46
                            try have c46b2 : (9223372036854775807 < (x3_1 ++ (rdOf ByteArray.empty y207 (ji41))).size + t206.size) = False := eq_false (Nat.not_lt.2 c46)
                            try (have c46b3 := c46; simp only [ByteArray.size_append, show (⟨#[120]⟩ : ByteArray).size = 1 from rfl, show (⟨#[95, 89]⟩ : ByteArray).size = 2 from rfl] at c46b3; replace c46b3 := eq_false (Nat.not_lt.2 c46b3))
                            by_cases c47 : x4_1.length < 2932031007402
                            · rw [if_pos c47] at H
                              have LMc47 := Aside0.mk c47
                              clear c47
                              obtain ⟨y213, hy213⟩ : ∃ y_ : List (S34), y_ = (x4_1 ++ [(⟨2, t206, Go.bits .and .i64 ((rd_T45 l0 x21_1).f1) 65535, (⟨t211, t212⟩ : S26)⟩ : S34)]) := ⟨_, rfl⟩
                              replace H : (palingslaw02_LexPieces.l0 k1 ((x3_1 ++ (rdOf ByteArray.empty y207 (ji41))) ++ t206) y213 l0 (l0.length : Int) (wrap64 (x21_1 + 1))) = some r := by first | (rw [hy213]; with_reducible exact H) | (have H2_ := (Option.bind_some _ _).symm.trans H; rw [hy213]; with_reducible exact H2_) | (have H2_ := (Option.bind_some _ _).symm.trans H; with_reducible exact H2_) | with_reducible exact H | (rw [hy213]; exact H) | exact H
                              have Ny213 := Aside0.mk hy213
                              clear hy213
                              have H' := Aside0.mk H
                              clear H
                              have p193 : 0 ≤ (x21_1 : Int) := of_decide_eq_true (by first | (with_reducible assumption) | assumption)
                              have q193 : x21_1 < (l0.length : Int) := of_decide_eq_true (by first | (with_reducible assumption) | assumption)
                              obtain ⟨ad193, e193, hx193_0, hx193_1, hx193_2⟩ := at_T45 HR0.out x21_1 p193 q193
                              cases e193
                              replace hx193_0 := (HB.out.cell (World.block_lt_of_cell? w _ hx193_0)).trans hx193_0
                              replace hx193_1 := (HB.out.cell (World.block_lt_of_cell? w _ hx193_1)).trans hx193_1
                              replace hx193_2 := (HB.out.cell (World.block_lt_of_cell? w _ hx193_2)).trans hx193_2
                              replace p193 := eq_true p193
                              replace q193 := eq_true q193
                              iterate 8 ((try go_quiet (fail)); go_wp2_with (first | ((with_reducible refine gate_dst (N := 6) rfl ?_); (try (refine gate_guard (by rfl) ?_; dsimp only)); refine box_event ?hg (N := 6) ?hd (cs := #[.int .i64 0, .int .i64 0, .int .i64 0]) (t := 45) ?hr ?_; (case hd => rfl); (case hg => rfl); (case hr => first | (go_simp; done) | (go_simp; rfl)); intro gb194 hg w48 hbox hb; have n0_ := Aside0.mk (Kd.R_below (by (with_reducible repeat (first | apply Kd.R_alloc | apply Kd.R_drewN | apply Kd.R_drew)); exact HO_4.out) hb); have n1_ := Aside0.mk (below_step (by repeat (first | (with_reducible first | exact HB.out | apply below_alloc | apply pw_below_drewN | apply below_drew1) | exact HB.out)) hb); have n2_ := Aside0.mk (hbox); have n3_ := Aside0.mk ((by rw [hg]; exact (below_size (by repeat (first | (with_reducible first | exact HB.out | apply below_alloc | apply pw_below_drewN | apply below_drew1) | exact HB.out))) : w.heap.size ≤ gb194)); have n4_ := Aside0.mk ((by rw [hg]; exact (below_size (by repeat (first | (with_reducible first | exact HB.out | apply below_alloc | apply pw_below_drewN | apply below_drew1) | exact HB.out))) : w.heap.size ≤ gb194)); clear HO_4; clear HB; have HO_4 := n0_; have HB := n1_; have BK194 := n2_; have GW194 := n3_; have GE194 := n4_; clear n0_ n1_ n2_ n3_ n4_; clear hb hbox hg; have hcz49_0 : w48.cell? ⟨gb194, 0, none⟩ = some (.int .i64 0) := (blk_cell BK194.out 0).trans rfl; have hcz49_1 : w48.cell? ⟨gb194, 1, none⟩ = some (.int .i64 0) := (blk_cell BK194.out 1).trans rfl; have hcz49_2 : w48.cell? ⟨gb194, 2, none⟩ = some (.int .i64 0) := (blk_cell BK194.out 2).trans rfl; have hfz49_0 := blk_frozen BK194.out 0; have hfz49_1 := blk_frozen BK194.out 1; have hfz49_2 := blk_frozen BK194.out 2) | ((with_reducible refine gate_dst (N := 9) rfl ?_); (try (refine gate_guard (by rfl) ?_; dsimp only)); refine box_event ?hg (N := 9) ?hd (cs := #[.int .i64 0, .string (⟨#[]⟩ : ByteArray), .int .i64 0, .int .i64 0, .int .i64 0]) (t := 34) ?hr ?_; (case hd => rfl); (case hg => rfl); (case hr => first | (go_simp; done) | (go_simp; rfl)); intro gb195 hg w50 hbox hb; have n0_ := Aside0.mk (Kd.R_below (Kd.R_elderB (by (with_reducible repeat (first | apply Kd.R_alloc | apply Kd.R_drewN | apply Kd.R_drew)); exact (Kd.R_mono (Kd.R_far (p := ⟨gb194, 2, none⟩) (Kd.R_far (p := ⟨gb194, 1, none⟩) (Kd.R_far (p := ⟨gb194, 0, none⟩) (Kd.R_types HO_4.out BK194.out (by decide)) (fun _ hk => hk.2) (.int .i64 ((rd_T45 l0 x21_1).f0))) (fun _ hk => hk.2) (.int .i64 ((rd_T45 l0 x21_1).f1))) (fun _ hk => hk.2) (.int .i64 ((rd_T45 l0 x21_1).f2))) (fun _ h_ => h_.1))) gb195 (Nat.le_of_eq hg.symm)) hb); have n1_ := Aside0.mk (blk_below (g := gb194) (o := .cells #[.int .i64 ((rd_T45 l0 x21_1).f0), .int .i64 ((rd_T45 l0 x21_1).f1), .int .i64 ((rd_T45 l0 x21_1).f2)] 45 (0, 0)) (by (with_reducible repeat (first | refine blk_drewN ?_ _ | refine blk_drew ?_ | refine blk_alloc ?_ _)); refine blk_put (cs := #[.int .i64 ((rd_T45 l0 x21_1).f0), .int .i64 ((rd_T45 l0 x21_1).f1), .int .i64 0]) ?_ 2 _ rfl; (with_reducible repeat (first | refine blk_drewN ?_ _ | refine blk_drew ?_ | refine blk_alloc ?_ _)); refine blk_put (cs := #[.int .i64 ((rd_T45 l0 x21_1).f0), .int .i64 0, .int .i64 0]) ?_ 1 _ rfl; (with_reducible repeat (first | refine blk_drewN ?_ _ | refine blk_drew ?_ | refine blk_alloc ?_ _)); refine blk_put (cs := #[.int .i64 0, .int .i64 0, .int .i64 0]) ?_ 0 _ rfl; (with_reducible repeat (first | refine blk_drewN ?_ _ | refine blk_drew ?_ | refine blk_alloc ?_ _)); exact BK194.out) hb); have n2_ := Aside0.mk (below_step (by repeat (first | (with_reducible first | exact HB.out | apply below_alloc | apply pw_below_drewN | apply below_drew1 | refine below_set ?_ GE194.out) | exact HB.out)) hb); have n3_ := Aside0.mk (hbox); have n4_ := Aside0.mk ((by rw [hg]; exact (below_size (by repeat (first | (with_reducible first | exact HB.out | apply below_alloc | apply pw_below_drewN | apply below_drew1 | refine below_set ?_ GE194.out) | exact HB.out))) : w.heap.size ≤ gb195)); have n5_ := Aside0.mk ((by rw [hg]; exact (below_size (by repeat (first | (with_reducible first | exact HB.out | apply below_alloc | apply pw_below_drewN | apply below_drew1 | refine below_set ?_ GE194.out) | exact HB.out))) : w.heap.size ≤ gb195)); have n6_ := Aside0.mk ((by rw [hg]; exact Nat.ne_of_lt (blk_lt (g := gb194) (o := .cells #[.int .i64 ((rd_T45 l0 x21_1).f0), .int .i64 ((rd_T45 l0 x21_1).f1), .int .i64 ((rd_T45 l0 x21_1).f2)] 45 (0, 0)) (by (with_reducible repeat (first | refine blk_drewN ?_ _ | refine blk_drew ?_ | refine blk_alloc ?_ _)); refine blk_put (cs := #[.int .i64 ((rd_T45 l0 x21_1).f0), .int .i64 ((rd_T45 l0 x21_1).f1), .int .i64 0]) ?_ 2 _ rfl; (with_reducible repeat (first | refine blk_drewN ?_ _ | refine blk_drew ?_ | refine blk_alloc ?_ _)); refine blk_put (cs := #[.int .i64 ((rd_T45 l0 x21_1).f0), .int .i64 0, .int .i64 0]) ?_ 1 _ rfl; (with_reducible repeat (first | refine blk_drewN ?_ _ | refine blk_drew ?_ | refine blk_alloc ?_ _)); refine blk_put (cs := #[.int .i64 0, .int .i64 0, .int .i64 0]) ?_ 0 _ rfl; (with_reducible repeat (first | refine blk_drewN ?_ _ | refine blk_drew ?_ | refine blk_alloc ?_ _)); exact BK194.out)) : gb194 ≠ gb195)); have n7_ := Aside0.mk ((by rw [hg]; exact Nat.ne_of_gt (blk_lt (g := gb194) (o := .cells #[.int .i64 ((rd_T45 l0 x21_1).f0), .int .i64 ((rd_T45 l0 x21_1).f1), .int .i64 ((rd_T45 l0 x21_1).f2)] 45 (0, 0)) (by (with_reducible repeat (first | refine blk_drewN ?_ _ | refine blk_drew ?_ | refine blk_alloc ?_ _)); refine blk_put (cs := #[.int .i64 ((rd_T45 l0 x21_1).f0), .int .i64 ((rd_T45 l0 x21_1).f1), .int .i64 0]) ?_ 2 _ rfl; (with_reducible repeat (first | refine blk_drewN ?_ _ | refine blk_drew ?_ | refine blk_alloc ?_ _)); refine blk_put (cs := #[.int .i64 ((rd_T45 l0 x21_1).f0), .int .i64 0, .int .i64 0]) ?_ 1 _ rfl; (with_reducible repeat (first | refine blk_drewN ?_ _ | refine blk_drew ?_ | refine blk_alloc ?_ _)); refine blk_put (cs := #[.int .i64 0, .int .i64 0, .int .i64 0]) ?_ 0 _ rfl; (with_reducible repeat (first | refine blk_drewN ?_ _ | refine blk_drew ?_ | refine blk_alloc ?_ _)); exact BK194.out)) : gb195 ≠ gb194)); clear HO_4; clear BK194; clear HB; have HO_4 := n0_; have BK194 := n1_; have HB := n2_; have BK195 := n3_; have GW195 := n4_; have GE195 := n5_; have NB194_195 := n6_; have NB195_194 := n7_; clear n0_ n1_ n2_ n3_ n4_ n5_ n6_ n7_; clear hb hbox hg; have hnb51 := NB195_194.out; have hnc51 := NB194_195.out; have hcz52_0 : w50.cell? ⟨gb195, 0, none⟩ = some (.int .i64 0) := (blk_cell BK195.out 0).trans rfl; have hcz52_1 : w50.cell? ⟨gb195, 1, none⟩ = some (.string (⟨#[]⟩ : ByteArray)) := (blk_cell BK195.out 1).trans rfl; have hcz52_2 : w50.cell? ⟨gb195, 2, none⟩ = some (.int .i64 0) := (blk_cell BK195.out 2).trans rfl; have hcz52_3 : w50.cell? ⟨gb195, 3, none⟩ = some (.int .i64 0) := (blk_cell BK195.out 3).trans rfl; have hcz52_4 : w50.cell? ⟨gb195, 4, none⟩ = some (.int .i64 0) := (blk_cell BK195.out 4).trans rfl; have hfz52_0 := blk_frozen BK195.out 0; have hfz52_1 := blk_frozen BK195.out 1; have hfz52_2 := blk_frozen BK195.out 2; have hfz52_3 := blk_frozen BK195.out 3; have hfz52_4 := blk_frozen BK195.out 4; have hcz53_0 : w50.cell? ⟨gb194, 0, none⟩ = some (.int .i64 ((rd_T45 l0 x21_1).f0)) := (blk_cell BK194.out 0).trans rfl; have hcz53_1 : w50.cell? ⟨gb194, 1, none⟩ = some (.int .i64 ((rd_T45 l0 x21_1).f1)) := (blk_cell BK194.out 1).trans rfl; have hcz53_2 : w50.cell? ⟨gb194, 2, none⟩ = some (.int .i64 ((rd_T45 l0 x21_1).f2)) := (blk_cell BK194.out 2).trans rfl; have hfz53_0 := blk_frozen BK194.out 0; have hfz53_1 := blk_frozen BK194.out 1; have hfz53_2 := blk_frozen BK194.out 2) | (go_at_call 15; (with_reducible refine (strconv_Itoa.calls (Go.bits .and .i64 ((rd_T45 l0 x21_1).f1) 65535) t206 _ ?sideG A40.out).mono ?_); (case sideG => exact tab_below GP.out (by repeat (first | (with_reducible first | exact HB.out | apply below_alloc | apply pw_below_drewN | apply below_drew1 | refine below_set ?_ GE194.out | refine below_set ?_ GE195.out) | exact HB.out))); rintro e w54 ⟨rfl, hb⟩; have n0_ := Aside0.mk (Kd.R_below (by (with_reducible repeat (first | apply Kd.R_alloc | apply Kd.R_drewN | apply Kd.R_drew)); exact (Kd.R_mono (Kd.R_far (p := ⟨gb195, 4, none⟩) (Kd.R_far (p := ⟨gb195, 3, none⟩) (Kd.R_far (p := ⟨gb195, 2, none⟩) (Kd.R_far (p := ⟨gb195, 1, none⟩) (Kd.R_far (p := ⟨gb195, 0, none⟩) (Kd.R_mono HO_4.out (fun k_ hk => (⟨hk, hk.2⟩ : _ ∧ k_ ≠ gb195))) (fun _ hk => hk.2) (.int .i64 0)) (fun _ hk => hk.2) (.string (⟨#[]⟩ : ByteArray))) (fun _ hk => hk.2) (.int .i64 0)) (fun _ hk => hk.2) (.int .i64 0)) (fun _ hk => hk.2) (.int .i64 0)) (fun _ h_ => h_.1))) hb); have n1_ := Aside0.mk (blk_below (g := gb194) (o := .cells #[.int .i64 ((rd_T45 l0 x21_1).f0), .int .i64 ((rd_T45 l0 x21_1).f1), .int .i64 ((rd_T45 l0 x21_1).f2)] 45 (0, 0)) (by (with_reducible repeat (first | refine blk_drewN ?_ _ | refine blk_drew ?_ | refine blk_alloc ?_ _)); refine blk_far ?_ NB194_195.out _; (with_reducible repeat (first | refine blk_drewN ?_ _ | refine blk_drew ?_ | refine blk_alloc ?_ _)); refine blk_far ?_ NB194_195.out _; (with_reducible repeat (first | refine blk_drewN ?_ _ | refine blk_drew ?_ | refine blk_alloc ?_ _)); refine blk_far ?_ NB194_195.out _; (with_reducible repeat (first | refine blk_drewN ?_ _ | refine blk_drew ?_ | refine blk_alloc ?_ _)); refine blk_far ?_ NB194_195.out _; (with_reducible repeat (first | refine blk_drewN ?_ _ | refine blk_drew ?_ | refine blk_alloc ?_ _)); refine blk_far ?_ NB194_195.out _; (with_reducible repeat (first | refine blk_drewN ?_ _ | refine blk_drew ?_ | refine blk_alloc ?_ _)); exact BK194.out) hb); have n2_ := Aside0.mk (blk_below (g := gb195) (o := .cells #[.int .i64 0, .string (⟨#[]⟩ : ByteArray), .int .i64 0, .int .i64 0, .int .i64 0] 34 (0, 0)) (by (with_reducible repeat (first | refine blk_drewN ?_ _ | refine blk_drew ?_ | refine blk_alloc ?_ _)); refine blk_put (cs := #[.int .i64 0, .string (⟨#[]⟩ : ByteArray), .int .i64 0, .int .i64 0, .int .i64 0]) ?_ 4 _ rfl; (with_reducible repeat (first | refine blk_drewN ?_ _ | refine blk_drew ?_ | refine blk_alloc ?_ _)); refine blk_put (cs := #[.int .i64 0, .string (⟨#[]⟩ : ByteArray), .int .i64 0, .int .i64 0, .int .i64 0]) ?_ 3 _ rfl; (with_reducible repeat (first | refine blk_drewN ?_ _ | refine blk_drew ?_ | refine blk_alloc ?_ _)); refine blk_put (cs := #[.int .i64 0, .string (⟨#[]⟩ : ByteArray), .int .i64 0, .int .i64 0, .int .i64 0]) ?_ 2 _ rfl; (with_reducible repeat (first | refine blk_drewN ?_ _ | refine blk_drew ?_ | refine blk_alloc ?_ _)); refine blk_put (cs := #[.int .i64 0, .string (⟨#[]⟩ : ByteArray), .int .i64 0, .int .i64 0, .int .i64 0]) ?_ 1 _ rfl; (with_reducible repeat (first | refine blk_drewN ?_ _ | refine blk_drew ?_ | refine blk_alloc ?_ _)); refine blk_put (cs := #[.int .i64 0, .string (⟨#[]⟩ : ByteArray), .int .i64 0, .int .i64 0, .int .i64 0]) ?_ 0 _ rfl; (with_reducible repeat (first | refine blk_drewN ?_ _ | refine blk_drew ?_ | refine blk_alloc ?_ _)); exact BK195.out) hb); have n3_ := Aside0.mk (below_step (by repeat (first | (with_reducible first | exact HB.out | apply below_alloc | apply pw_below_drewN | apply below_drew1 | refine below_set ?_ GE194.out | refine below_set ?_ GE195.out) | exact HB.out)) hb); clear HO_4; clear BK194; clear BK195; clear HB; have HO_4 := n0_; have BK194 := n1_; have BK195 := n2_; have HB := n3_; clear n0_ n1_ n2_ n3_; (try clear hb); (try clear hb2); (try clear hk); (try clear hi); have hcz55_0 : w54.cell? ⟨gb195, 0, none⟩ = some (.int .i64 0) := (blk_cell BK195.out 0).trans rfl; have hcz55_1 : w54.cell? ⟨gb195, 1, none⟩ = some (.string (⟨#[]⟩ : ByteArray)) := (blk_cell BK195.out 1).trans rfl; have hcz55_2 : w54.cell? ⟨gb195, 2, none⟩ = some (.int .i64 0) := (blk_cell BK195.out 2).trans rfl; have hcz55_3 : w54.cell? ⟨gb195, 3, none⟩ = some (.int .i64 0) := (blk_cell BK195.out 3).trans rfl; have hcz55_4 : w54.cell? ⟨gb195, 4, none⟩ = some (.int .i64 0) := (blk_cell BK195.out 4).trans rfl; have hfz55_0 := blk_frozen BK195.out 0; have hfz55_1 := blk_frozen BK195.out 1; have hfz55_2 := blk_frozen BK195.out 2; have hfz55_3 := blk_frozen BK195.out 3; have hfz55_4 := blk_frozen BK195.out 4) | ((with_reducible refine gate_dst (N := 65) rfl ?_); (try (refine gate_guard (by rfl) ?_; dsimp only)); refine Kd.R_lit Kd.string _ 9 ?hg (N := 65) ?hd (xs := ([(⟨#[32]⟩ : ByteArray), (⟨#[10]⟩ : ByteArray), (⟨#[9, 32, 13, 10]⟩ : ByteArray), (⟨#[32, 47, 47, 32, 110, 111, 32, 116, 111, 107, 101, 110, 32, 38, 38, 32, 53, 10]⟩ : ByteArray), (⟨#[10, 47, 47, 10]⟩ : ByteArray)] : List ByteArray)) (inner := [.string (⟨#[32]⟩ : ByteArray), .string (⟨#[10]⟩ : ByteArray), .string (⟨#[9, 32, 13, 10]⟩ : ByteArray), .string (⟨#[32, 47, 47, 32, 110, 111, 32, 116, 111, 107, 101, 110, 32, 38, 38, 32, 53, 10]⟩ : ByteArray), .string (⟨#[10, 47, 47, 10]⟩ : ByteArray)]) (ok := fun _ => True) (okp := fun _ => True) ?hr ?hp (fun _ hk => hk) trivial (Below.refl _ _) (Nat.le_refl _) (by simp) ?_; (case hd => rfl); (case hg => rfl); (case hr => first | (go_simp; done) | (go_simp; rfl)); (case hp => exact (Reps.one (show Kd.M Kd.string _ _ _ (⟨#[32]⟩ : ByteArray) [.string (⟨#[32]⟩ : ByteArray)] from rfl) (Reps.one (show Kd.M Kd.string _ _ _ (⟨#[10]⟩ : ByteArray) [.string (⟨#[10]⟩ : ByteArray)] from rfl) (Reps.one (show Kd.M Kd.string _ _ _ (⟨#[9, 32, 13, 10]⟩ : ByteArray) [.string (⟨#[9, 32, 13, 10]⟩ : ByteArray)] from rfl) (Reps.one (show Kd.M Kd.string _ _ _ (⟨#[32, 47, 47, 32, 110, 111, 32, 116, 111, 107, 101, 110, 32, 38, 38, 32, 53, 10]⟩ : ByteArray) [.string (⟨#[32, 47, 47, 32, 110, 111, 32, 116, 111, 107, 101, 110, 32, 38, 38, 32, 53, 10]⟩ : ByteArray)] from rfl) (Reps.one (show Kd.M Kd.string _ _ _ (⟨#[10, 47, 47, 10]⟩ : ByteArray) [.string (⟨#[10, 47, 47, 10]⟩ : ByteArray)] from rfl) (Reps.none _ _))))))); intro v208 w56 ho57 hb hg_ hnew_; clear hg_ hnew_; (first | rw [← Ny207.out] at ho57 | (simp only [Int.reduceToNat] at ho57; rw [← Ny207.out] at ho57)); have n0_ := Aside0.mk (Kd.R_below (by (with_reducible repeat (first | apply Kd.R_alloc | apply Kd.R_drewN | apply Kd.R_drew)); exact (Kd.R_mono (Kd.R_far (p := ⟨gb195, 2, none⟩) (Kd.R_far (p := ⟨gb195, 0, none⟩) (Kd.R_mono HO_4.out (fun k_ hk => (⟨hk, hk.2⟩ : _ ∧ k_ ≠ gb195))) (fun _ hk => hk.2) (.int .i64 2)) (fun _ hk => hk.2) (.int .i64 (Go.bits .and .i64 ((rd_T45 l0 x21_1).f1) 65535))) (fun _ h_ => h_.1))) hb); have n1_ := Aside0.mk (Kd.R_lower ho57 (below_size (by repeat (first | (with_reducible first | exact HB.out | apply below_alloc | apply pw_below_drewN | apply below_drew1 | refine below_set ?_ GE194.out | refine below_set ?_ GE195.out) | exact HB.out)))); have n2_ := Aside0.mk (blk_below (g := gb194) (o := .cells #[.int .i64 ((rd_T45 l0 x21_1).f0), .int .i64 ((rd_T45 l0 x21_1).f1), .int .i64 ((rd_T45 l0 x21_1).f2)] 45 (0, 0)) (by (with_reducible repeat (first | refine blk_drewN ?_ _ | refine blk_drew ?_ | refine blk_alloc ?_ _)); refine blk_far ?_ NB194_195.out _; (with_reducible repeat (first | refine blk_drewN ?_ _ | refine blk_drew ?_ | refine blk_alloc ?_ _)); refine blk_far ?_ NB194_195.out _; (with_reducible repeat (first | refine blk_drewN ?_ _ | refine blk_drew ?_ | refine blk_alloc ?_ _)); exact BK194.out) hb); have n3_ := Aside0.mk (blk_below (g := gb195) (o := .cells #[.int .i64 2, .string (⟨#[]⟩ : ByteArray), .int .i64 (Go.bits .and .i64 ((rd_T45 l0 x21_1).f1) 65535), .int .i64 0, .int .i64 0] 34 (0, 0)) (by (with_reducible repeat (first | refine blk_drewN ?_ _ | refine blk_drew ?_ | refine blk_alloc ?_ _)); refine blk_put (cs := #[.int .i64 2, .string (⟨#[]⟩ : ByteArray), .int .i64 0, .int .i64 0, .int .i64 0]) ?_ 2 _ rfl; (with_reducible repeat (first | refine blk_drewN ?_ _ | refine blk_drew ?_ | refine blk_alloc ?_ _)); refine blk_put (cs := #[.int .i64 0, .string (⟨#[]⟩ : ByteArray), .int .i64 0, .int .i64 0, .int .i64 0]) ?_ 0 _ rfl; (with_reducible repeat (first | refine blk_drewN ?_ _ | refine blk_drew ?_ | refine blk_alloc ?_ _)); exact BK195.out) hb); have n4_ := Aside0.mk (below_step (by repeat (first | (with_reducible first | exact HB.out | apply below_alloc | apply pw_below_drewN | apply below_drew1 | refine below_set ?_ GE194.out | refine below_set ?_ GE195.out) | exact HB.out)) hb); clear HO_4; clear BK194; clear BK195; clear HB; have HO_4 := n0_; have HO209 := n1_; have BK194 := n2_; have BK195 := n3_; have HB := n4_; clear n0_ n1_ n2_ n3_ n4_; clear hb ho57; have hcz58_0 : w56.cell? ⟨gb194, 0, none⟩ = some (.int .i64 ((rd_T45 l0 x21_1).f0)) := (blk_cell BK194.out 0).trans rfl; have hcz58_1 : w56.cell? ⟨gb194, 1, none⟩ = some (.int .i64 ((rd_T45 l0 x21_1).f1)) := (blk_cell BK194.out 1).trans rfl; have hcz58_2 : w56.cell? ⟨gb194, 2, none⟩ = some (.int .i64 ((rd_T45 l0 x21_1).f2)) := (blk_cell BK194.out 2).trans rfl; have hfz58_0 := blk_frozen BK194.out 0; have hfz58_1 := blk_frozen BK194.out 1; have hfz58_2 := blk_frozen BK194.out 2; obtain ⟨Ao59, co59, eo59⟩ := Kd.R_slice HO209.out; subst eo59; have p210 : 0 ≤ ((ji41) : Int) := of_decide_eq_true (by first | (with_reducible assumption) | assumption); have q210 : (ji41) < (y207.length : Int) := of_decide_eq_true (by first | (with_reducible assumption) | assumption); obtain ⟨ad210, e210, hx210_0⟩ := Kd.at_string (Kd.R_reads' HO209.out).2.2 (ji41) p210 q210; cases e210; replace p210 := eq_true p210; replace q210 := eq_true q210; have hcz60_0 : w56.cell? ⟨gb195, 0, none⟩ = some (.int .i64 2) := (blk_cell BK195.out 0).trans rfl; have hcz60_1 : w56.cell? ⟨gb195, 1, none⟩ = some (.string (⟨#[]⟩ : ByteArray)) := (blk_cell BK195.out 1).trans rfl; have hcz60_2 : w56.cell? ⟨gb195, 2, none⟩ = some (.int .i64 (Go.bits .and .i64 ((rd_T45 l0 x21_1).f1) 65535)) := (blk_cell BK195.out 2).trans rfl; have hcz60_3 : w56.cell? ⟨gb195, 3, none⟩ = some (.int .i64 0) := (blk_cell BK195.out 3).trans rfl; have hcz60_4 : w56.cell? ⟨gb195, 4, none⟩ = some (.int .i64 0) := (blk_cell BK195.out 4).trans rfl; have hfz60_0 := blk_frozen BK195.out 0; have hfz60_1 := blk_frozen BK195.out 1; have hfz60_2 := blk_frozen BK195.out 2; have hfz60_3 := blk_frozen BK195.out 3; have hfz60_4 := blk_frozen BK195.out 4) | (go_at_call 13; (with_reducible refine (palingslaw02_place.calls k1 (x3_1 ++ (rdOf ByteArray.empty y207 (ji41))) ((x3_1.size : Int) + ((rdOf ByteArray.empty y207 (ji41)).size : Int)) t211 t212 _ A45.out).mono ?_); rintro e w61 ⟨rfl, hb⟩; have n0_ := Aside0.mk (Kd.R_below (by (with_reducible repeat (first | apply Kd.R_alloc | apply Kd.R_drewN | apply Kd.R_drew)); exact (Kd.R_mono (Kd.R_far (p := ⟨gb195, 1, none⟩) (Kd.R_mono HO_4.out (fun k_ hk => (⟨hk, hk.2⟩ : _ ∧ k_ ≠ gb195))) (fun _ hk => hk.2) (.string t206)) (fun _ h_ => h_.1))) hb); have n1_ := Aside0.mk (Kd.R_below (by (with_reducible repeat (first | apply Kd.R_alloc | apply Kd.R_drewN | apply Kd.R_drew)); exact (Kd.R_mono (Kd.R_far (p := ⟨gb195, 1, none⟩) (Kd.R_types HO209.out BK195.out (by decide)) (fun _ hk => hk.2) (.string t206)) (fun _ h_ => h_.1))) hb); have n2_ := Aside0.mk (blk_below (g := gb194) (o := .cells #[.int .i64 ((rd_T45 l0 x21_1).f0), .int .i64 ((rd_T45 l0 x21_1).f1), .int .i64 ((rd_T45 l0 x21_1).f2)] 45 (0, 0)) (by (with_reducible repeat (first | refine blk_drewN ?_ _ | refine blk_drew ?_ | refine blk_alloc ?_ _)); refine blk_far ?_ NB194_195.out _; (with_reducible repeat (first | refine blk_drewN ?_ _ | refine blk_drew ?_ | refine blk_alloc ?_ _)); exact BK194.out) hb); have n3_ := Aside0.mk (blk_below (g := gb195) (o := .cells #[.int .i64 2, .string t206, .int .i64 (Go.bits .and .i64 ((rd_T45 l0 x21_1).f1) 65535), .int .i64 0, .int .i64 0] 34 (0, 0)) (by (with_reducible repeat (first | refine blk_drewN ?_ _ | refine blk_drew ?_ | refine blk_alloc ?_ _)); refine blk_put (cs := #[.int .i64 2, .string (⟨#[]⟩ : ByteArray), .int .i64 (Go.bits .and .i64 ((rd_T45 l0 x21_1).f1) 65535), .int .i64 0, .int .i64 0]) ?_ 1 _ rfl; (with_reducible repeat (first | refine blk_drewN ?_ _ | refine blk_drew ?_ | refine blk_alloc ?_ _)); exact BK195.out) hb); have n4_ := Aside0.mk (below_step (by repeat (first | (with_reducible first | exact HB.out | apply below_alloc | apply pw_below_drewN | apply below_drew1 | refine below_set ?_ GE194.out | refine below_set ?_ GE195.out) | exact HB.out)) hb); clear HO_4; clear HO209; clear BK194; clear BK195; clear HB; have HO_4 := n0_; have HO209 := n1_; have BK194 := n2_; have BK195 := n3_; have HB := n4_; clear n0_ n1_ n2_ n3_ n4_; (try clear hb); (try clear hb2); (try clear hk); (try clear hi); have hcz62_0 : w61.cell? ⟨gb195, 0, none⟩ = some (.int .i64 2) := (blk_cell BK195.out 0).trans rfl; have hcz62_1 : w61.cell? ⟨gb195, 1, none⟩ = some (.string t206) := (blk_cell BK195.out 1).trans rfl; have hcz62_2 : w61.cell? ⟨gb195, 2, none⟩ = some (.int .i64 (Go.bits .and .i64 ((rd_T45 l0 x21_1).f1) 65535)) := (blk_cell BK195.out 2).trans rfl; have hcz62_3 : w61.cell? ⟨gb195, 3, none⟩ = some (.int .i64 0) := (blk_cell BK195.out 3).trans rfl; have hcz62_4 : w61.cell? ⟨gb195, 4, none⟩ = some (.int .i64 0) := (blk_cell BK195.out 4).trans rfl; have hfz62_0 := blk_frozen BK195.out 0; have hfz62_1 := blk_frozen BK195.out 1; have hfz62_2 := blk_frozen BK195.out 2; have hfz62_3 := blk_frozen BK195.out 3; have hfz62_4 := blk_frozen BK195.out 4) | ((with_reducible refine gate_builtin (b := .append) (xs := #[.tmp 84, .tmp 86]) rfl ?_); (try (refine gate_guard (by rfl) ?_; dsimp only)); at_builtin; refine Kd.R_append k34 (w0 := w) w.heap.size rfl (.tmp 84) (.tmp 86) 23 34 (.agg #[(.int .i64 0), (.string ⟨#[]⟩), (.int .i64 0), (.int .i64 0), (.int .i64 0)]) 48 rfl Tryd.underlying23 info34 rfl (by decide) (by omega) u4 x4_1 (⟨2, t206, Go.bits .and .i64 ((rd_T45 l0 x21_1).f1) 65535, (⟨t211, t212⟩ : S26)⟩ : S34) [.int .i64 2, .string t206, .int .i64 (Go.bits .and .i64 ((rd_T45 l0 x21_1).f1) 65535), .int .i64 t211, .int .i64 t212] (fun k_ => k_ ≠ gb195) (fun _ => False) rfl (by first | (go_simp; done) | (go_simp; rfl)) ?aP (fun _ hk => hk.elim) ?aF ?aO ?aB ?aS ?aL ?_; (case aP => exact k34_mkM _ _ _ (⟨2, t206, Go.bits .and .i64 ((rd_T45 l0 x21_1).f1) 65535, (⟨t211, t212⟩ : S26)⟩ : S34)); (case aB => exact (by repeat (first | (with_reducible first | exact HB.out | apply below_alloc | apply pw_below_drewN | apply below_drew1 | refine below_set ?_ GE194.out | refine below_set ?_ GE195.out) | exact HB.out))); (case aF => exact (fun k_ hk => Kd.freshB (g := gb195) (o := .cells #[.int .i64 2, .string t206, .int .i64 (Go.bits .and .i64 ((rd_T45 l0 x21_1).f1) 65535), .int .i64 t211, .int .i64 t212] 34 (0, 0)) (by (with_reducible repeat (first | refine blk_drewN ?_ _ | refine blk_drew ?_ | refine blk_alloc ?_ _)); refine blk_put (cs := #[.int .i64 2, .string t206, .int .i64 (Go.bits .and .i64 ((rd_T45 l0 x21_1).f1) 65535), .int .i64 t211, .int .i64 0]) ?_ 4 _ rfl; (with_reducible repeat (first | refine blk_drewN ?_ _ | refine blk_drew ?_ | refine blk_alloc ?_ _)); refine blk_put (cs := #[.int .i64 2, .string t206, .int .i64 (Go.bits .and .i64 ((rd_T45 l0 x21_1).f1) 65535), .int .i64 0, .int .i64 0]) ?_ 3 _ rfl; (with_reducible repeat (first | refine blk_drewN ?_ _ | refine blk_drew ?_ | refine blk_alloc ?_ _)); exact BK195.out) k_ hk)); (case aO => exact (by (with_reducible repeat (first | apply Kd.R_alloc | apply Kd.R_drewN | apply Kd.R_drew)); exact Kd.R_mono (Kd.R_far (p := ⟨gb195, 4, none⟩) (Kd.R_far (p := ⟨gb195, 3, none⟩) (Kd.R_mono HO_4.out (fun k_ hk => (⟨hk, hk.2⟩ : _ ∧ k_ ≠ gb195))) (fun _ hk => hk.2) (.int .i64 t211)) (fun _ hk => hk.2) (.int .i64 t212)) (fun _ hk => hk.1.2))); (case aS => exact (below_size (by repeat (first | (with_reducible first | exact HB.out | apply below_alloc | apply pw_below_drewN | apply below_drew1 | refine below_set ?_ GE194.out | refine below_set ?_ GE195.out) | exact HB.out)))); (case aL => have := LMc47.out; omega); intro v214 w63 ho hb hg hat; rw [← Ny213.out] at ho; have n0_ := Aside0.mk (blk_grown (g := gb194) (o := .cells #[.int .i64 ((rd_T45 l0 x21_1).f0), .int .i64 ((rd_T45 l0 x21_1).f1), .int .i64 ((rd_T45 l0 x21_1).f2)] 45 (0, 0)) (by (with_reducible repeat (first | refine blk_drewN ?_ _ | refine blk_drew ?_ | refine blk_alloc ?_ _)); refine blk_far ?_ NB194_195.out _; (with_reducible repeat (first | refine blk_drewN ?_ _ | refine blk_drew ?_ | refine blk_alloc ?_ _)); refine blk_far ?_ NB194_195.out _; (with_reducible repeat (first | refine blk_drewN ?_ _ | refine blk_drew ?_ | refine blk_alloc ?_ _)); exact BK194.out) hg (Kd.R_ne HO_4.out BK194.out (by decide))); have n1_ := Aside0.mk (blk_grown (g := gb195) (o := .cells #[.int .i64 2, .string t206, .int .i64 (Go.bits .and .i64 ((rd_T45 l0 x21_1).f1) 65535), .int .i64 t211, .int .i64 t212] 34 (0, 0)) (by (with_reducible repeat (first | refine blk_drewN ?_ _ | refine blk_drew ?_ | refine blk_alloc ?_ _)); refine blk_put (cs := #[.int .i64 2, .string t206, .int .i64 (Go.bits .and .i64 ((rd_T45 l0 x21_1).f1) 65535), .int .i64 t211, .int .i64 0]) ?_ 4 _ rfl; (with_reducible repeat (first | refine blk_drewN ?_ _ | refine blk_drew ?_ | refine blk_alloc ?_ _)); refine blk_put (cs := #[.int .i64 2, .string t206, .int .i64 (Go.bits .and .i64 ((rd_T45 l0 x21_1).f1) 65535), .int .i64 0, .int .i64 0]) ?_ 3 _ rfl; (with_reducible repeat (first | refine blk_drewN ?_ _ | refine blk_drew ?_ | refine blk_alloc ?_ _)); exact BK195.out) hg (Kd.R_away HO_4.out (fun _ hk => hk.2))); have n2_ := Aside0.mk (Kd.R_over' (by (with_reducible repeat (first | apply Kd.R_alloc | apply Kd.R_drewN | apply Kd.R_drew)); exact (Kd.R_mono (Kd.R_far (p := ⟨gb195, 4, none⟩) (Kd.R_far (p := ⟨gb195, 3, none⟩) (Kd.R_types HO209.out BK195.out (by decide)) (fun _ hk => hk.2) (.int .i64 t211)) (fun _ hk => hk.2) (.int .i64 t212)) (fun _ h_ => h_.1))) (Kd.R_typed (by (with_reducible repeat (first | apply Kd.R_alloc | apply Kd.R_drewN | apply Kd.R_drew)); exact (Kd.R_mono (Kd.R_far (p := ⟨gb195, 4, none⟩) (Kd.R_far (p := ⟨gb195, 3, none⟩) (Kd.R_mono HO_4.out (fun k_ hk => (⟨hk, hk.2⟩ : _ ∧ k_ ≠ gb195))) (fun _ hk => hk.2) (.int .i64 t211)) (fun _ hk => hk.2) (.int .i64 t212)) (fun _ h_ => h_.1)))) (by decide) hg); have n3_ := Aside0.mk (hb); have n4_ := Aside0.mk (ho); clear BK194; clear BK195; clear HO209; clear HB; clear HO_4; have BK194 := n0_; have BK195 := n1_; have HO209 := n2_; have HB := n3_; have HO215 := n4_; clear n0_ n1_ n2_ n3_ n4_; clear ho hb hg hat)))
                              go_roundg k1
                              case measure => have := HK1.out; omega
                              case rel => exact ⟨((x3_1 ++ (rdOf ByteArray.empty y207 (ji41))) ++ t206), (y213), (wrap64 (x21_1 + 1)), (by first | rfl | (simp; done) | (simp only [← hji41] <;> (first | rfl | simp)) | (simp [*]; done)), (by first | rfl | (simp; done) | (simp [*]; done)), H', ⟨by have := HK1.out; omega⟩, ⟨by (with_reducible repeat (first | apply Kd.R_alloc | apply Kd.R_drewN | apply Kd.R_drew)); exact Kd.R_mono HO215.out (fun _ hk => trivial)⟩, ⟨by repeat (first | (with_reducible first | exact HB.out | apply below_alloc | apply pw_below_drewN | apply below_drew1 | refine below_set ?_ GE194.out | refine below_set ?_ GE195.out) | exact HB.out)⟩⟩
                            · rw [if_neg c47] at H
                              exact absurd H (by simp)
                          · rw [if_neg c46] at H
                            exact absurd H (by simp)
                        · rw [if_neg c44] at H
                          exact absurd H (by simp)
                      · rw [if_neg c43] at H
                        exact absurd H (by simp)
                    · rw [if_neg c42] at H
                      exact absurd H (by simp)
                  · rw [if_neg c39] at H
                    have c39b0 : ((Go.bits .and .i64 ((rd_T45 l0 x21_1).f0) 3) == 1) = false := beq_eq_false_iff_ne.mpr c39
                    have c39b1 : ((Go.bits .and .i64 ((rd_T45 l0 x21_1).f0) 3) != 1) = true := bne_iff_ne.mpr c39
                    by_cases c64 : (Go.bits .and .i64 ((rd_T45 l0 x21_1).f0) 3) = 2
                    · rw [if_pos c64] at H
                      have c64b0 : ((Go.bits .and .i64 ((rd_T45 l0 x21_1).f0) 3) == 2) = true := beq_iff_eq.mpr c64
                      have c64b1 : ((Go.bits .and .i64 ((rd_T45 l0 x21_1).f0) 3) != 2) = false := bne_eq_false_iff_eq.mpr c64
                      clear c64
                      replace H := Option.bind_eq_some_iff.mp H
                      obtain ⟨t216, A650, H⟩ := H
                      replace H : ((some (([(⟨#[32]⟩ : ByteArray), (⟨#[10]⟩ : ByteArray), (⟨#[9, 32, 13, 10]⟩ : ByteArray), (⟨#[32, 47, 47, 32, 110, 111, 32, 116, 111, 107, 101, 110, 32, 38, 38, 32, 53, 10]⟩ : ByteArray), (⟨#[10, 47, 47, 10]⟩ : ByteArray)] : List ByteArray) : List ByteArray)).bind fun y217 => (if 0 ≤ (wrap64 (Int.tmod (IntKind.u64.wrap ((rd_T45 l0 x21_1).f2)) 5)) then (if (wrap64 (Int.tmod (IntKind.u64.wrap ((rd_T45 l0 x21_1).f2)) 5)) < (y217.length : Int) then (if x3_1.size + (rdOf ByteArray.empty y217 (wrap64 (Int.tmod (IntKind.u64.wrap ((rd_T45 l0 x21_1).f2)) 5))).size ≤ 9223372036854775807 then ((palingslaw02_place.f k1 (x3_1 ++ (rdOf ByteArray.empty y217 (wrap64 (Int.tmod (IntKind.u64.wrap ((rd_T45 l0 x21_1).f2)) 5)))) ((x3_1 ++ (rdOf ByteArray.empty y217 (wrap64 (Int.tmod (IntKind.u64.wrap ((rd_T45 l0 x21_1).f2)) 5)))).size : Int)).bind fun bt221 => (if (x3_1 ++ (rdOf ByteArray.empty y217 (wrap64 (Int.tmod (IntKind.u64.wrap ((rd_T45 l0 x21_1).f2)) 5)))).size + t216.size ≤ 9223372036854775807 then (if x4_1.length < 2932031007402 then (palingslaw02_LexPieces.l0 k1 ((x3_1 ++ (rdOf ByteArray.empty y217 (wrap64 (Int.tmod (IntKind.u64.wrap ((rd_T45 l0 x21_1).f2)) 5)))) ++ t216) (x4_1 ++ [(⟨3, t216, 0, (⟨bt221.1, bt221.2⟩ : S26)⟩ : S34)]) l0 (l0.length : Int) (wrap64 (x21_1 + 1))) else (none)) else (none))) else (none)) else (none)) else (none))) = some r := H
                      have A65 := Aside0.mk A650
                      clear A650
                      obtain ⟨y217, hy217⟩ : ∃ y_ : List ByteArray, y_ = (([(⟨#[32]⟩ : ByteArray), (⟨#[10]⟩ : ByteArray), (⟨#[9, 32, 13, 10]⟩ : ByteArray), (⟨#[32, 47, 47, 32, 110, 111, 32, 116, 111, 107, 101, 110, 32, 38, 38, 32, 53, 10]⟩ : ByteArray), (⟨#[10, 47, 47, 10]⟩ : ByteArray)] : List ByteArray)) := ⟨_, rfl⟩
                      replace H : (if 0 ≤ (wrap64 (Int.tmod (IntKind.u64.wrap ((rd_T45 l0 x21_1).f2)) 5)) then (if (wrap64 (Int.tmod (IntKind.u64.wrap ((rd_T45 l0 x21_1).f2)) 5)) < (y217.length : Int) then (if x3_1.size + (rdOf ByteArray.empty y217 (wrap64 (Int.tmod (IntKind.u64.wrap ((rd_T45 l0 x21_1).f2)) 5))).size ≤ 9223372036854775807 then ((palingslaw02_place.f k1 (x3_1 ++ (rdOf ByteArray.empty y217 (wrap64 (Int.tmod (IntKind.u64.wrap ((rd_T45 l0 x21_1).f2)) 5)))) ((x3_1 ++ (rdOf ByteArray.empty y217 (wrap64 (Int.tmod (IntKind.u64.wrap ((rd_T45 l0 x21_1).f2)) 5)))).size : Int)).bind fun bt221 => (if (x3_1 ++ (rdOf ByteArray.empty y217 (wrap64 (Int.tmod (IntKind.u64.wrap ((rd_T45 l0 x21_1).f2)) 5)))).size + t216.size ≤ 9223372036854775807 then (if x4_1.length < 2932031007402 then (palingslaw02_LexPieces.l0 k1 ((x3_1 ++ (rdOf ByteArray.empty y217 (wrap64 (Int.tmod (IntKind.u64.wrap ((rd_T45 l0 x21_1).f2)) 5)))) ++ t216) (x4_1 ++ [(⟨3, t216, 0, (⟨bt221.1, bt221.2⟩ : S26)⟩ : S34)]) l0 (l0.length : Int) (wrap64 (x21_1 + 1))) else (none)) else (none))) else (none)) else (none)) else (none)) = some r := by first | (rw [hy217]; with_reducible exact H) | (have H2_ := (Option.bind_some _ _).symm.trans H; rw [hy217]; with_reducible exact H2_) | (have H2_ := (Option.bind_some _ _).symm.trans H; with_reducible exact H2_) | with_reducible exact H | (rw [hy217]; exact H) | exact H
                      have Ny217 := Aside0.mk hy217
                      clear hy217
                      obtain ⟨ji66, hji66⟩ : ∃ j_ : Int, (wrap64 (Int.tmod (IntKind.u64.wrap ((rd_T45 l0 x21_1).f2)) 5)) = j_ := ⟨_, rfl⟩
                      replace H : (if 0 ≤ (ji66) then (if (ji66) < (y217.length : Int) then (if x3_1.size + (rdOf ByteArray.empty y217 (ji66)).size ≤ 9223372036854775807 then ((palingslaw02_place.f k1 (x3_1 ++ (rdOf ByteArray.empty y217 (ji66))) ((x3_1 ++ (rdOf ByteArray.empty y217 (ji66))).size : Int)).bind fun bt221 => (if (x3_1 ++ (rdOf ByteArray.empty y217 (ji66))).size + t216.size ≤ 9223372036854775807 then (if x4_1.length < 2932031007402 then (palingslaw02_LexPieces.l0 k1 ((x3_1 ++ (rdOf ByteArray.empty y217 (ji66))) ++ t216) (x4_1 ++ [(⟨3, t216, 0, (⟨bt221.1, bt221.2⟩ : S26)⟩ : S34)]) l0 (l0.length : Int) (wrap64 (x21_1 + 1))) else (none)) else (none))) else (none)) else (none)) else (none)) = some r := by first | (rw [hji66] at H; exact H) | (simp only [hji66] at H ⊢; exact H)
                      (try rw [hji66] at A65)
                      have hji66w : (IntKind.i64.wrap (Int.tmod (IntKind.u64.wrap ((rd_T45 l0 x21_1).f2)) 5)) = ji66 := (i64_w _).trans hji66
                      by_cases c67 : 0 ≤ (ji66)
                      · rw [if_pos c67] at H
                        have c67b0 : decide (0 ≤ (ji66)) = true := decide_eq_true c67
                        clear c67
                        by_cases c68 : (ji66) < (y217.length : Int)
                        · rw [if_pos c68] at H
                          have c68b0 : decide ((ji66) < (y217.length : Int)) = true := decide_eq_true c68
                          clear c68
                          by_cases c69 : x3_1.size + (rdOf ByteArray.empty y217 (ji66)).size ≤ 9223372036854775807
                          · rw [if_pos c69] at H
                            have c69b0 := eq_true c69
                            have c69b1 : decide (x3_1.size + (rdOf ByteArray.empty y217 (ji66)).size ≤ 9223372036854775807) = true := decide_eq_true c69
                            try have c69b2 : (9223372036854775807 < x3_1.size + (rdOf ByteArray.empty y217 (ji66)).size) = False := eq_false (Nat.not_lt.2 c69)
                            replace H := Option.bind_eq_some_iff.mp H
                            obtain ⟨⟨t221, t222⟩, A700, H⟩ := H
                            replace H : (if (x3_1 ++ (rdOf ByteArray.empty y217 (ji66))).size + t216.size ≤ 9223372036854775807 then (if x4_1.length < 2932031007402 then (palingslaw02_LexPieces.l0 k1 ((x3_1 ++ (rdOf ByteArray.empty y217 (ji66))) ++ t216) (x4_1 ++ [(⟨3, t216, 0, (⟨t221, t222⟩ : S26)⟩ : S34)]) l0 (l0.length : Int) (wrap64 (x21_1 + 1))) else (none)) else (none)) = some r := H
                            rw [ByteArray.size_append, Int.natCast_add] at A700
                            have A70 := Aside0.mk A700
                            clear A700
                            by_cases c71 : (x3_1 ++ (rdOf ByteArray.empty y217 (ji66))).size + t216.size ≤ 9223372036854775807
                            · rw [if_pos c71] at H
                              have c71b0 := eq_true c71
                              have c71b1 : decide ((x3_1 ++ (rdOf ByteArray.empty y217 (ji66))).size + t216.size ≤ 9223372036854775807) = true := decide_eq_true c71
                              try have c71b2 : (9223372036854775807 < (x3_1 ++ (rdOf ByteArray.empty y217 (ji66))).size + t216.size) = False := eq_false (Nat.not_lt.2 c71)
                              try (have c71b3 := c71; simp only [ByteArray.size_append, show (⟨#[120]⟩ : ByteArray).size = 1 from rfl, show (⟨#[95, 89]⟩ : ByteArray).size = 2 from rfl] at c71b3; replace c71b3 := eq_false (Nat.not_lt.2 c71b3))
                              by_cases c72 : x4_1.length < 2932031007402
                              · rw [if_pos c72] at H
                                have LMc72 := Aside0.mk c72
                                clear c72
                                obtain ⟨y223, hy223⟩ : ∃ y_ : List (S34), y_ = (x4_1 ++ [(⟨3, t216, 0, (⟨t221, t222⟩ : S26)⟩ : S34)]) := ⟨_, rfl⟩
                                replace H : (palingslaw02_LexPieces.l0 k1 ((x3_1 ++ (rdOf ByteArray.empty y217 (ji66))) ++ t216) y223 l0 (l0.length : Int) (wrap64 (x21_1 + 1))) = some r := by first | (rw [hy223]; with_reducible exact H) | (have H2_ := (Option.bind_some _ _).symm.trans H; rw [hy223]; with_reducible exact H2_) | (have H2_ := (Option.bind_some _ _).symm.trans H; with_reducible exact H2_) | with_reducible exact H | (rw [hy223]; exact H) | exact H
                                have Ny223 := Aside0.mk hy223
                                clear hy223
                                have H' := Aside0.mk H
                                clear H
                                have p193 : 0 ≤ (x21_1 : Int) := of_decide_eq_true (by first | (with_reducible assumption) | assumption)
                                have q193 : x21_1 < (l0.length : Int) := of_decide_eq_true (by first | (with_reducible assumption) | assumption)
                                obtain ⟨ad193, e193, hx193_0, hx193_1, hx193_2⟩ := at_T45 HR0.out x21_1 p193 q193
                                cases e193
                                replace hx193_0 := (HB.out.cell (World.block_lt_of_cell? w _ hx193_0)).trans hx193_0
                                replace hx193_1 := (HB.out.cell (World.block_lt_of_cell? w _ hx193_1)).trans hx193_1
                                replace hx193_2 := (HB.out.cell (World.block_lt_of_cell? w _ hx193_2)).trans hx193_2
                                replace p193 := eq_true p193
                                replace q193 := eq_true q193
                                iterate 8 ((try go_quiet (fail)); go_wp2_with (first | ((with_reducible refine gate_dst (N := 6) rfl ?_); (try (refine gate_guard (by rfl) ?_; dsimp only)); refine box_event ?hg (N := 6) ?hd (cs := #[.int .i64 0, .int .i64 0, .int .i64 0]) (t := 45) ?hr ?_; (case hd => rfl); (case hg => rfl); (case hr => first | (go_simp; done) | (go_simp; rfl)); intro gb194 hg w73 hbox hb; have n0_ := Aside0.mk (Kd.R_below (by (with_reducible repeat (first | apply Kd.R_alloc | apply Kd.R_drewN | apply Kd.R_drew)); exact HO_4.out) hb); have n1_ := Aside0.mk (below_step (by repeat (first | (with_reducible first | exact HB.out | apply below_alloc | apply pw_below_drewN | apply below_drew1) | exact HB.out)) hb); have n2_ := Aside0.mk (hbox); have n3_ := Aside0.mk ((by rw [hg]; exact (below_size (by repeat (first | (with_reducible first | exact HB.out | apply below_alloc | apply pw_below_drewN | apply below_drew1) | exact HB.out))) : w.heap.size ≤ gb194)); have n4_ := Aside0.mk ((by rw [hg]; exact (below_size (by repeat (first | (with_reducible first | exact HB.out | apply below_alloc | apply pw_below_drewN | apply below_drew1) | exact HB.out))) : w.heap.size ≤ gb194)); clear HO_4; clear HB; have HO_4 := n0_; have HB := n1_; have BK194 := n2_; have GW194 := n3_; have GE194 := n4_; clear n0_ n1_ n2_ n3_ n4_; clear hb hbox hg; have hcz74_0 : w73.cell? ⟨gb194, 0, none⟩ = some (.int .i64 0) := (blk_cell BK194.out 0).trans rfl; have hcz74_1 : w73.cell? ⟨gb194, 1, none⟩ = some (.int .i64 0) := (blk_cell BK194.out 1).trans rfl; have hcz74_2 : w73.cell? ⟨gb194, 2, none⟩ = some (.int .i64 0) := (blk_cell BK194.out 2).trans rfl; have hfz74_0 := blk_frozen BK194.out 0; have hfz74_1 := blk_frozen BK194.out 1; have hfz74_2 := blk_frozen BK194.out 2) | ((with_reducible refine gate_dst (N := 9) rfl ?_); (try (refine gate_guard (by rfl) ?_; dsimp only)); refine box_event ?hg (N := 9) ?hd (cs := #[.int .i64 0, .string (⟨#[]⟩ : ByteArray), .int .i64 0, .int .i64 0, .int .i64 0]) (t := 34) ?hr ?_; (case hd => rfl); (case hg => rfl); (case hr => first | (go_simp; done) | (go_simp; rfl)); intro gb195 hg w75 hbox hb; have n0_ := Aside0.mk (Kd.R_below (Kd.R_elderB (by (with_reducible repeat (first | apply Kd.R_alloc | apply Kd.R_drewN | apply Kd.R_drew)); exact (Kd.R_mono (Kd.R_far (p := ⟨gb194, 2, none⟩) (Kd.R_far (p := ⟨gb194, 1, none⟩) (Kd.R_far (p := ⟨gb194, 0, none⟩) (Kd.R_types HO_4.out BK194.out (by decide)) (fun _ hk => hk.2) (.int .i64 ((rd_T45 l0 x21_1).f0))) (fun _ hk => hk.2) (.int .i64 ((rd_T45 l0 x21_1).f1))) (fun _ hk => hk.2) (.int .i64 ((rd_T45 l0 x21_1).f2))) (fun _ h_ => h_.1))) gb195 (Nat.le_of_eq hg.symm)) hb); have n1_ := Aside0.mk (blk_below (g := gb194) (o := .cells #[.int .i64 ((rd_T45 l0 x21_1).f0), .int .i64 ((rd_T45 l0 x21_1).f1), .int .i64 ((rd_T45 l0 x21_1).f2)] 45 (0, 0)) (by (with_reducible repeat (first | refine blk_drewN ?_ _ | refine blk_drew ?_ | refine blk_alloc ?_ _)); refine blk_put (cs := #[.int .i64 ((rd_T45 l0 x21_1).f0), .int .i64 ((rd_T45 l0 x21_1).f1), .int .i64 0]) ?_ 2 _ rfl; (with_reducible repeat (first | refine blk_drewN ?_ _ | refine blk_drew ?_ | refine blk_alloc ?_ _)); refine blk_put (cs := #[.int .i64 ((rd_T45 l0 x21_1).f0), .int .i64 0, .int .i64 0]) ?_ 1 _ rfl; (with_reducible repeat (first | refine blk_drewN ?_ _ | refine blk_drew ?_ | refine blk_alloc ?_ _)); refine blk_put (cs := #[.int .i64 0, .int .i64 0, .int .i64 0]) ?_ 0 _ rfl; (with_reducible repeat (first | refine blk_drewN ?_ _ | refine blk_drew ?_ | refine blk_alloc ?_ _)); exact BK194.out) hb); have n2_ := Aside0.mk (below_step (by repeat (first | (with_reducible first | exact HB.out | apply below_alloc | apply pw_below_drewN | apply below_drew1 | refine below_set ?_ GE194.out) | exact HB.out)) hb); have n3_ := Aside0.mk (hbox); have n4_ := Aside0.mk ((by rw [hg]; exact (below_size (by repeat (first | (with_reducible first | exact HB.out | apply below_alloc | apply pw_below_drewN | apply below_drew1 | refine below_set ?_ GE194.out) | exact HB.out))) : w.heap.size ≤ gb195)); have n5_ := Aside0.mk ((by rw [hg]; exact (below_size (by repeat (first | (with_reducible first | exact HB.out | apply below_alloc | apply pw_below_drewN | apply below_drew1 | refine below_set ?_ GE194.out) | exact HB.out))) : w.heap.size ≤ gb195)); have n6_ := Aside0.mk ((by rw [hg]; exact Nat.ne_of_lt (blk_lt (g := gb194) (o := .cells #[.int .i64 ((rd_T45 l0 x21_1).f0), .int .i64 ((rd_T45 l0 x21_1).f1), .int .i64 ((rd_T45 l0 x21_1).f2)] 45 (0, 0)) (by (with_reducible repeat (first | refine blk_drewN ?_ _ | refine blk_drew ?_ | refine blk_alloc ?_ _)); refine blk_put (cs := #[.int .i64 ((rd_T45 l0 x21_1).f0), .int .i64 ((rd_T45 l0 x21_1).f1), .int .i64 0]) ?_ 2 _ rfl; (with_reducible repeat (first | refine blk_drewN ?_ _ | refine blk_drew ?_ | refine blk_alloc ?_ _)); refine blk_put (cs := #[.int .i64 ((rd_T45 l0 x21_1).f0), .int .i64 0, .int .i64 0]) ?_ 1 _ rfl; (with_reducible repeat (first | refine blk_drewN ?_ _ | refine blk_drew ?_ | refine blk_alloc ?_ _)); refine blk_put (cs := #[.int .i64 0, .int .i64 0, .int .i64 0]) ?_ 0 _ rfl; (with_reducible repeat (first | refine blk_drewN ?_ _ | refine blk_drew ?_ | refine blk_alloc ?_ _)); exact BK194.out)) : gb194 ≠ gb195)); have n7_ := Aside0.mk ((by rw [hg]; exact Nat.ne_of_gt (blk_lt (g := gb194) (o := .cells #[.int .i64 ((rd_T45 l0 x21_1).f0), .int .i64 ((rd_T45 l0 x21_1).f1), .int .i64 ((rd_T45 l0 x21_1).f2)] 45 (0, 0)) (by (with_reducible repeat (first | refine blk_drewN ?_ _ | refine blk_drew ?_ | refine blk_alloc ?_ _)); refine blk_put (cs := #[.int .i64 ((rd_T45 l0 x21_1).f0), .int .i64 ((rd_T45 l0 x21_1).f1), .int .i64 0]) ?_ 2 _ rfl; (with_reducible repeat (first | refine blk_drewN ?_ _ | refine blk_drew ?_ | refine blk_alloc ?_ _)); refine blk_put (cs := #[.int .i64 ((rd_T45 l0 x21_1).f0), .int .i64 0, .int .i64 0]) ?_ 1 _ rfl; (with_reducible repeat (first | refine blk_drewN ?_ _ | refine blk_drew ?_ | refine blk_alloc ?_ _)); refine blk_put (cs := #[.int .i64 0, .int .i64 0, .int .i64 0]) ?_ 0 _ rfl; (with_reducible repeat (first | refine blk_drewN ?_ _ | refine blk_drew ?_ | refine blk_alloc ?_ _)); exact BK194.out)) : gb195 ≠ gb194)); clear HO_4; clear BK194; clear HB; have HO_4 := n0_; have BK194 := n1_; have HB := n2_; have BK195 := n3_; have GW195 := n4_; have GE195 := n5_; have NB194_195 := n6_; have NB195_194 := n7_; clear n0_ n1_ n2_ n3_ n4_ n5_ n6_ n7_; clear hb hbox hg; have hnb76 := NB195_194.out; have hnc76 := NB194_195.out; have hcz77_0 : w75.cell? ⟨gb195, 0, none⟩ = some (.int .i64 0) := (blk_cell BK195.out 0).trans rfl; have hcz77_1 : w75.cell? ⟨gb195, 1, none⟩ = some (.string (⟨#[]⟩ : ByteArray)) := (blk_cell BK195.out 1).trans rfl; have hcz77_2 : w75.cell? ⟨gb195, 2, none⟩ = some (.int .i64 0) := (blk_cell BK195.out 2).trans rfl; have hcz77_3 : w75.cell? ⟨gb195, 3, none⟩ = some (.int .i64 0) := (blk_cell BK195.out 3).trans rfl; have hcz77_4 : w75.cell? ⟨gb195, 4, none⟩ = some (.int .i64 0) := (blk_cell BK195.out 4).trans rfl; have hfz77_0 := blk_frozen BK195.out 0; have hfz77_1 := blk_frozen BK195.out 1; have hfz77_2 := blk_frozen BK195.out 2; have hfz77_3 := blk_frozen BK195.out 3; have hfz77_4 := blk_frozen BK195.out 4; obtain ⟨wa_, wcap_, hwa_, hj_⟩ := tab_fact GW.out (by decide) (by decide) _ _ A65.out; obtain ⟨jt_, hjt_⟩ : ∃ j_ : Int, wrap64 (Int.tmod ((Go.bits .and .i64 ((rd_T45 l0 x21_1).f1) 65535)) 11) = j_ := ⟨_, rfl⟩; obtain ⟨hwb_, hp_, hq_⟩ := hj_ _ hjt_; clear hj_; have hjw_ : IntKind.i64.wrap (Int.tmod ((Go.bits .and .i64 ((rd_T45 l0 x21_1).f1) 65535)) 11) = jt_ := (i64_w _).trans hjt_; have hjr_ : Int.tmod ((Go.bits .and .i64 ((rd_T45 l0 x21_1).f1) 65535)) 11 = jt_ := (tmod_wrap _ _ (by decide) (by decide)).symm.trans hjt_; have nw_ : (⟨1, 0, none⟩ : Addr).block ≠ gb195 := Nat.ne_of_lt (Nat.lt_of_lt_of_le (World.block_lt_of_cell? w _ hwa_) GE195.out); have nv_ : (wa_.add jt_.toNat).block ≠ gb195 := Nat.ne_of_lt (Nat.lt_of_lt_of_le (World.block_lt_of_cell? w _ hwb_) GE195.out); replace hwa_ : w.cell? ⟨1, 0, none⟩ = some (.slice (some wa_) 11 wcap_) := hwa_; replace hwa_ := Mine.cell_below hwa_ HB.out; replace hwb_ := Mine.cell_below hwb_ HB.out; have hpd_ : decide (0 ≤ jt_) = true := decide_eq_true hp_; have hqd_ : decide (jt_ < 11) = true := decide_eq_true hq_; replace hp_ := eq_true hp_; replace hq_ : (jt_ < 11) = True := eq_true hq_; replace hwa_ := (cell_far (p := ⟨gb195, 0, none⟩) (by exact nw_) (.int .i64 0)).trans hwa_; replace hwb_ := (cell_far (p := ⟨gb195, 0, none⟩) (by exact nv_) (.int .i64 0)).trans hwb_; replace hwa_ := (cell_far (p := ⟨gb195, 1, none⟩) (by exact nw_) (.string (⟨#[]⟩ : ByteArray))).trans hwa_; replace hwb_ := (cell_far (p := ⟨gb195, 1, none⟩) (by exact nv_) (.string (⟨#[]⟩ : ByteArray))).trans hwb_; replace hwa_ := (cell_far (p := ⟨gb195, 2, none⟩) (by exact nw_) (.int .i64 0)).trans hwa_; replace hwb_ := (cell_far (p := ⟨gb195, 2, none⟩) (by exact nv_) (.int .i64 0)).trans hwb_; replace hwa_ := (cell_far (p := ⟨gb195, 3, none⟩) (by exact nw_) (.int .i64 0)).trans hwa_; replace hwb_ := (cell_far (p := ⟨gb195, 3, none⟩) (by exact nv_) (.int .i64 0)).trans hwb_; replace hwa_ := (cell_far (p := ⟨gb195, 4, none⟩) (by exact nw_) (.int .i64 0)).trans hwa_; replace hwb_ := (cell_far (p := ⟨gb195, 4, none⟩) (by exact nv_) (.int .i64 0)).trans hwb_; have hcz78_0 : w75.cell? ⟨gb194, 0, none⟩ = some (.int .i64 ((rd_T45 l0 x21_1).f0)) := (blk_cell BK194.out 0).trans rfl; have hcz78_1 : w75.cell? ⟨gb194, 1, none⟩ = some (.int .i64 ((rd_T45 l0 x21_1).f1)) := (blk_cell BK194.out 1).trans rfl; have hcz78_2 : w75.cell? ⟨gb194, 2, none⟩ = some (.int .i64 ((rd_T45 l0 x21_1).f2)) := (blk_cell BK194.out 2).trans rfl; have hfz78_0 := blk_frozen BK194.out 0; have hfz78_1 := blk_frozen BK194.out 1; have hfz78_2 := blk_frozen BK194.out 2) | ((with_reducible refine gate_dst (N := 65) rfl ?_); (try (refine gate_guard (by rfl) ?_; dsimp only)); refine Kd.R_lit Kd.string _ 9 ?hg (N := 65) ?hd (xs := ([(⟨#[32]⟩ : ByteArray), (⟨#[10]⟩ : ByteArray), (⟨#[9, 32, 13, 10]⟩ : ByteArray), (⟨#[32, 47, 47, 32, 110, 111, 32, 116, 111, 107, 101, 110, 32, 38, 38, 32, 53, 10]⟩ : ByteArray), (⟨#[10, 47, 47, 10]⟩ : ByteArray)] : List ByteArray)) (inner := [.string (⟨#[32]⟩ : ByteArray), .string (⟨#[10]⟩ : ByteArray), .string (⟨#[9, 32, 13, 10]⟩ : ByteArray), .string (⟨#[32, 47, 47, 32, 110, 111, 32, 116, 111, 107, 101, 110, 32, 38, 38, 32, 53, 10]⟩ : ByteArray), .string (⟨#[10, 47, 47, 10]⟩ : ByteArray)]) (ok := fun _ => True) (okp := fun _ => True) ?hr ?hp (fun _ hk => hk) trivial (Below.refl _ _) (Nat.le_refl _) (by simp) ?_; (case hd => rfl); (case hg => rfl); (case hr => first | (go_simp; done) | (go_simp; rfl)); (case hp => exact (Reps.one (show Kd.M Kd.string _ _ _ (⟨#[32]⟩ : ByteArray) [.string (⟨#[32]⟩ : ByteArray)] from rfl) (Reps.one (show Kd.M Kd.string _ _ _ (⟨#[10]⟩ : ByteArray) [.string (⟨#[10]⟩ : ByteArray)] from rfl) (Reps.one (show Kd.M Kd.string _ _ _ (⟨#[9, 32, 13, 10]⟩ : ByteArray) [.string (⟨#[9, 32, 13, 10]⟩ : ByteArray)] from rfl) (Reps.one (show Kd.M Kd.string _ _ _ (⟨#[32, 47, 47, 32, 110, 111, 32, 116, 111, 107, 101, 110, 32, 38, 38, 32, 53, 10]⟩ : ByteArray) [.string (⟨#[32, 47, 47, 32, 110, 111, 32, 116, 111, 107, 101, 110, 32, 38, 38, 32, 53, 10]⟩ : ByteArray)] from rfl) (Reps.one (show Kd.M Kd.string _ _ _ (⟨#[10, 47, 47, 10]⟩ : ByteArray) [.string (⟨#[10, 47, 47, 10]⟩ : ByteArray)] from rfl) (Reps.none _ _))))))); intro v218 w79 ho80 hb hg_ hnew_; clear hg_ hnew_; (first | rw [← Ny217.out] at ho80 | (simp only [Int.reduceToNat] at ho80; rw [← Ny217.out] at ho80)); have n0_ := Aside0.mk (Kd.R_below (by (with_reducible repeat (first | apply Kd.R_alloc | apply Kd.R_drewN | apply Kd.R_drew)); exact (Kd.R_mono (Kd.R_far (p := ⟨gb195, 0, none⟩) (Kd.R_far (p := ⟨gb195, 4, none⟩) (Kd.R_far (p := ⟨gb195, 3, none⟩) (Kd.R_far (p := ⟨gb195, 2, none⟩) (Kd.R_far (p := ⟨gb195, 1, none⟩) (Kd.R_far (p := ⟨gb195, 0, none⟩) (Kd.R_mono HO_4.out (fun k_ hk => (⟨hk, hk.2⟩ : _ ∧ k_ ≠ gb195))) (fun _ hk => hk.2) (.int .i64 0)) (fun _ hk => hk.2) (.string (⟨#[]⟩ : ByteArray))) (fun _ hk => hk.2) (.int .i64 0)) (fun _ hk => hk.2) (.int .i64 0)) (fun _ hk => hk.2) (.int .i64 0)) (fun _ hk => hk.2) (.int .i64 3)) (fun _ h_ => h_.1))) hb); have n1_ := Aside0.mk (Kd.R_lower ho80 (below_size (by repeat (first | (with_reducible first | exact HB.out | apply below_alloc | apply pw_below_drewN | apply below_drew1 | refine below_set ?_ GE194.out | refine below_set ?_ GE195.out) | exact HB.out)))); have n2_ := Aside0.mk (blk_below (g := gb194) (o := .cells #[.int .i64 ((rd_T45 l0 x21_1).f0), .int .i64 ((rd_T45 l0 x21_1).f1), .int .i64 ((rd_T45 l0 x21_1).f2)] 45 (0, 0)) (by (with_reducible repeat (first | refine blk_drewN ?_ _ | refine blk_drew ?_ | refine blk_alloc ?_ _)); refine blk_far ?_ NB194_195.out _; (with_reducible repeat (first | refine blk_drewN ?_ _ | refine blk_drew ?_ | refine blk_alloc ?_ _)); refine blk_far ?_ NB194_195.out _; (with_reducible repeat (first | refine blk_drewN ?_ _ | refine blk_drew ?_ | refine blk_alloc ?_ _)); refine blk_far ?_ NB194_195.out _; (with_reducible repeat (first | refine blk_drewN ?_ _ | refine blk_drew ?_ | refine blk_alloc ?_ _)); refine blk_far ?_ NB194_195.out _; (with_reducible repeat (first | refine blk_drewN ?_ _ | refine blk_drew ?_ | refine blk_alloc ?_ _)); refine blk_far ?_ NB194_195.out _; (with_reducible repeat (first | refine blk_drewN ?_ _ | refine blk_drew ?_ | refine blk_alloc ?_ _)); refine blk_far ?_ NB194_195.out _; (with_reducible repeat (first | refine blk_drewN ?_ _ | refine blk_drew ?_ | refine blk_alloc ?_ _)); exact BK194.out) hb); have n3_ := Aside0.mk (blk_below (g := gb195) (o := .cells #[.int .i64 3, .string (⟨#[]⟩ : ByteArray), .int .i64 0, .int .i64 0, .int .i64 0] 34 (0, 0)) (by (with_reducible repeat (first | refine blk_drewN ?_ _ | refine blk_drew ?_ | refine blk_alloc ?_ _)); refine blk_put (cs := #[.int .i64 0, .string (⟨#[]⟩ : ByteArray), .int .i64 0, .int .i64 0, .int .i64 0]) ?_ 0 _ rfl; (with_reducible repeat (first | refine blk_drewN ?_ _ | refine blk_drew ?_ | refine blk_alloc ?_ _)); refine blk_put (cs := #[.int .i64 0, .string (⟨#[]⟩ : ByteArray), .int .i64 0, .int .i64 0, .int .i64 0]) ?_ 4 _ rfl; (with_reducible repeat (first | refine blk_drewN ?_ _ | refine blk_drew ?_ | refine blk_alloc ?_ _)); refine blk_put (cs := #[.int .i64 0, .string (⟨#[]⟩ : ByteArray), .int .i64 0, .int .i64 0, .int .i64 0]) ?_ 3 _ rfl; (with_reducible repeat (first | refine blk_drewN ?_ _ | refine blk_drew ?_ | refine blk_alloc ?_ _)); refine blk_put (cs := #[.int .i64 0, .string (⟨#[]⟩ : ByteArray), .int .i64 0, .int .i64 0, .int .i64 0]) ?_ 2 _ rfl; (with_reducible repeat (first | refine blk_drewN ?_ _ | refine blk_drew ?_ | refine blk_alloc ?_ _)); refine blk_put (cs := #[.int .i64 0, .string (⟨#[]⟩ : ByteArray), .int .i64 0, .int .i64 0, .int .i64 0]) ?_ 1 _ rfl; (with_reducible repeat (first | refine blk_drewN ?_ _ | refine blk_drew ?_ | refine blk_alloc ?_ _)); refine blk_put (cs := #[.int .i64 0, .string (⟨#[]⟩ : ByteArray), .int .i64 0, .int .i64 0, .int .i64 0]) ?_ 0 _ rfl; (with_reducible repeat (first | refine blk_drewN ?_ _ | refine blk_drew ?_ | refine blk_alloc ?_ _)); exact BK195.out) hb); have n4_ := Aside0.mk (below_step (by repeat (first | (with_reducible first | exact HB.out | apply below_alloc | apply pw_below_drewN | apply below_drew1 | refine below_set ?_ GE194.out | refine below_set ?_ GE195.out) | exact HB.out)) hb); clear HO_4; clear BK194; clear BK195; clear HB; have HO_4 := n0_; have HO219 := n1_; have BK194 := n2_; have BK195 := n3_; have HB := n4_; clear n0_ n1_ n2_ n3_ n4_; clear hb ho80; have hcz81_0 : w79.cell? ⟨gb194, 0, none⟩ = some (.int .i64 ((rd_T45 l0 x21_1).f0)) := (blk_cell BK194.out 0).trans rfl; have hcz81_1 : w79.cell? ⟨gb194, 1, none⟩ = some (.int .i64 ((rd_T45 l0 x21_1).f1)) := (blk_cell BK194.out 1).trans rfl; have hcz81_2 : w79.cell? ⟨gb194, 2, none⟩ = some (.int .i64 ((rd_T45 l0 x21_1).f2)) := (blk_cell BK194.out 2).trans rfl; have hfz81_0 := blk_frozen BK194.out 0; have hfz81_1 := blk_frozen BK194.out 1; have hfz81_2 := blk_frozen BK194.out 2; obtain ⟨Ao82, co82, eo82⟩ := Kd.R_slice HO219.out; subst eo82; have p220 : 0 ≤ ((ji66) : Int) := of_decide_eq_true (by first | (with_reducible assumption) | assumption); have q220 : (ji66) < (y217.length : Int) := of_decide_eq_true (by first | (with_reducible assumption) | assumption); obtain ⟨ad220, e220, hx220_0⟩ := Kd.at_string (Kd.R_reads' HO219.out).2.2 (ji66) p220 q220; cases e220; replace p220 := eq_true p220; replace q220 := eq_true q220; have hcz83_0 : w79.cell? ⟨gb195, 0, none⟩ = some (.int .i64 3) := (blk_cell BK195.out 0).trans rfl; have hcz83_1 : w79.cell? ⟨gb195, 1, none⟩ = some (.string (⟨#[]⟩ : ByteArray)) := (blk_cell BK195.out 1).trans rfl; have hcz83_2 : w79.cell? ⟨gb195, 2, none⟩ = some (.int .i64 0) := (blk_cell BK195.out 2).trans rfl; have hcz83_3 : w79.cell? ⟨gb195, 3, none⟩ = some (.int .i64 0) := (blk_cell BK195.out 3).trans rfl; have hcz83_4 : w79.cell? ⟨gb195, 4, none⟩ = some (.int .i64 0) := (blk_cell BK195.out 4).trans rfl; have hfz83_0 := blk_frozen BK195.out 0; have hfz83_1 := blk_frozen BK195.out 1; have hfz83_2 := blk_frozen BK195.out 2; have hfz83_3 := blk_frozen BK195.out 3; have hfz83_4 := blk_frozen BK195.out 4) | (go_at_call 13; (with_reducible refine (palingslaw02_place.calls k1 (x3_1 ++ (rdOf ByteArray.empty y217 (ji66))) ((x3_1.size : Int) + ((rdOf ByteArray.empty y217 (ji66)).size : Int)) t221 t222 _ A70.out).mono ?_); rintro e w84 ⟨rfl, hb⟩; have n0_ := Aside0.mk (Kd.R_below (by (with_reducible repeat (first | apply Kd.R_alloc | apply Kd.R_drewN | apply Kd.R_drew)); exact (Kd.R_mono (Kd.R_far (p := ⟨gb195, 1, none⟩) (Kd.R_mono HO_4.out (fun k_ hk => (⟨hk, hk.2⟩ : _ ∧ k_ ≠ gb195))) (fun _ hk => hk.2) (.string t216)) (fun _ h_ => h_.1))) hb); have n1_ := Aside0.mk (Kd.R_below (by (with_reducible repeat (first | apply Kd.R_alloc | apply Kd.R_drewN | apply Kd.R_drew)); exact (Kd.R_mono (Kd.R_far (p := ⟨gb195, 1, none⟩) (Kd.R_types HO219.out BK195.out (by decide)) (fun _ hk => hk.2) (.string t216)) (fun _ h_ => h_.1))) hb); have n2_ := Aside0.mk (blk_below (g := gb194) (o := .cells #[.int .i64 ((rd_T45 l0 x21_1).f0), .int .i64 ((rd_T45 l0 x21_1).f1), .int .i64 ((rd_T45 l0 x21_1).f2)] 45 (0, 0)) (by (with_reducible repeat (first | refine blk_drewN ?_ _ | refine blk_drew ?_ | refine blk_alloc ?_ _)); refine blk_far ?_ NB194_195.out _; (with_reducible repeat (first | refine blk_drewN ?_ _ | refine blk_drew ?_ | refine blk_alloc ?_ _)); exact BK194.out) hb); have n3_ := Aside0.mk (blk_below (g := gb195) (o := .cells #[.int .i64 3, .string t216, .int .i64 0, .int .i64 0, .int .i64 0] 34 (0, 0)) (by (with_reducible repeat (first | refine blk_drewN ?_ _ | refine blk_drew ?_ | refine blk_alloc ?_ _)); refine blk_put (cs := #[.int .i64 3, .string (⟨#[]⟩ : ByteArray), .int .i64 0, .int .i64 0, .int .i64 0]) ?_ 1 _ rfl; (with_reducible repeat (first | refine blk_drewN ?_ _ | refine blk_drew ?_ | refine blk_alloc ?_ _)); exact BK195.out) hb); have n4_ := Aside0.mk (below_step (by repeat (first | (with_reducible first | exact HB.out | apply below_alloc | apply pw_below_drewN | apply below_drew1 | refine below_set ?_ GE194.out | refine below_set ?_ GE195.out) | exact HB.out)) hb); clear HO_4; clear HO219; clear BK194; clear BK195; clear HB; have HO_4 := n0_; have HO219 := n1_; have BK194 := n2_; have BK195 := n3_; have HB := n4_; clear n0_ n1_ n2_ n3_ n4_; (try clear hb); (try clear hb2); (try clear hk); (try clear hi); have hcz85_0 : w84.cell? ⟨gb195, 0, none⟩ = some (.int .i64 3) := (blk_cell BK195.out 0).trans rfl; have hcz85_1 : w84.cell? ⟨gb195, 1, none⟩ = some (.string t216) := (blk_cell BK195.out 1).trans rfl; have hcz85_2 : w84.cell? ⟨gb195, 2, none⟩ = some (.int .i64 0) := (blk_cell BK195.out 2).trans rfl; have hcz85_3 : w84.cell? ⟨gb195, 3, none⟩ = some (.int .i64 0) := (blk_cell BK195.out 3).trans rfl; have hcz85_4 : w84.cell? ⟨gb195, 4, none⟩ = some (.int .i64 0) := (blk_cell BK195.out 4).trans rfl; have hfz85_0 := blk_frozen BK195.out 0; have hfz85_1 := blk_frozen BK195.out 1; have hfz85_2 := blk_frozen BK195.out 2; have hfz85_3 := blk_frozen BK195.out 3; have hfz85_4 := blk_frozen BK195.out 4) | ((with_reducible refine gate_builtin (b := .append) (xs := #[.tmp 84, .tmp 86]) rfl ?_); (try (refine gate_guard (by rfl) ?_; dsimp only)); at_builtin; refine Kd.R_append k34 (w0 := w) w.heap.size rfl (.tmp 84) (.tmp 86) 23 34 (.agg #[(.int .i64 0), (.string ⟨#[]⟩), (.int .i64 0), (.int .i64 0), (.int .i64 0)]) 48 rfl Tryd.underlying23 info34 rfl (by decide) (by omega) u4 x4_1 (⟨3, t216, 0, (⟨t221, t222⟩ : S26)⟩ : S34) [.int .i64 3, .string t216, .int .i64 0, .int .i64 t221, .int .i64 t222] (fun k_ => k_ ≠ gb195) (fun _ => False) rfl (by first | (go_simp; done) | (go_simp; rfl)) ?aP (fun _ hk => hk.elim) ?aF ?aO ?aB ?aS ?aL ?_; (case aP => exact k34_mkM _ _ _ (⟨3, t216, 0, (⟨t221, t222⟩ : S26)⟩ : S34)); (case aB => exact (by repeat (first | (with_reducible first | exact HB.out | apply below_alloc | apply pw_below_drewN | apply below_drew1 | refine below_set ?_ GE194.out | refine below_set ?_ GE195.out) | exact HB.out))); (case aF => exact (fun k_ hk => Kd.freshB (g := gb195) (o := .cells #[.int .i64 3, .string t216, .int .i64 0, .int .i64 t221, .int .i64 t222] 34 (0, 0)) (by (with_reducible repeat (first | refine blk_drewN ?_ _ | refine blk_drew ?_ | refine blk_alloc ?_ _)); refine blk_put (cs := #[.int .i64 3, .string t216, .int .i64 0, .int .i64 t221, .int .i64 0]) ?_ 4 _ rfl; (with_reducible repeat (first | refine blk_drewN ?_ _ | refine blk_drew ?_ | refine blk_alloc ?_ _)); refine blk_put (cs := #[.int .i64 3, .string t216, .int .i64 0, .int .i64 0, .int .i64 0]) ?_ 3 _ rfl; (with_reducible repeat (first | refine blk_drewN ?_ _ | refine blk_drew ?_ | refine blk_alloc ?_ _)); exact BK195.out) k_ hk)); (case aO => exact (by (with_reducible repeat (first | apply Kd.R_alloc | apply Kd.R_drewN | apply Kd.R_drew)); exact Kd.R_mono (Kd.R_far (p := ⟨gb195, 4, none⟩) (Kd.R_far (p := ⟨gb195, 3, none⟩) (Kd.R_mono HO_4.out (fun k_ hk => (⟨hk, hk.2⟩ : _ ∧ k_ ≠ gb195))) (fun _ hk => hk.2) (.int .i64 t221)) (fun _ hk => hk.2) (.int .i64 t222)) (fun _ hk => hk.1.2))); (case aS => exact (below_size (by repeat (first | (with_reducible first | exact HB.out | apply below_alloc | apply pw_below_drewN | apply below_drew1 | refine below_set ?_ GE194.out | refine below_set ?_ GE195.out) | exact HB.out)))); (case aL => have := LMc72.out; omega); intro v224 w86 ho hb hg hat; rw [← Ny223.out] at ho; have n0_ := Aside0.mk (blk_grown (g := gb194) (o := .cells #[.int .i64 ((rd_T45 l0 x21_1).f0), .int .i64 ((rd_T45 l0 x21_1).f1), .int .i64 ((rd_T45 l0 x21_1).f2)] 45 (0, 0)) (by (with_reducible repeat (first | refine blk_drewN ?_ _ | refine blk_drew ?_ | refine blk_alloc ?_ _)); refine blk_far ?_ NB194_195.out _; (with_reducible repeat (first | refine blk_drewN ?_ _ | refine blk_drew ?_ | refine blk_alloc ?_ _)); refine blk_far ?_ NB194_195.out _; (with_reducible repeat (first | refine blk_drewN ?_ _ | refine blk_drew ?_ | refine blk_alloc ?_ _)); exact BK194.out) hg (Kd.R_ne HO_4.out BK194.out (by decide))); have n1_ := Aside0.mk (blk_grown (g := gb195) (o := .cells #[.int .i64 3, .string t216, .int .i64 0, .int .i64 t221, .int .i64 t222] 34 (0, 0)) (by (with_reducible repeat (first | refine blk_drewN ?_ _ | refine blk_drew ?_ | refine blk_alloc ?_ _)); refine blk_put (cs := #[.int .i64 3, .string t216, .int .i64 0, .int .i64 t221, .int .i64 0]) ?_ 4 _ rfl; (with_reducible repeat (first | refine blk_drewN ?_ _ | refine blk_drew ?_ | refine blk_alloc ?_ _)); refine blk_put (cs := #[.int .i64 3, .string t216, .int .i64 0, .int .i64 0, .int .i64 0]) ?_ 3 _ rfl; (with_reducible repeat (first | refine blk_drewN ?_ _ | refine blk_drew ?_ | refine blk_alloc ?_ _)); exact BK195.out) hg (Kd.R_away HO_4.out (fun _ hk => hk.2))); have n2_ := Aside0.mk (Kd.R_over' (by (with_reducible repeat (first | apply Kd.R_alloc | apply Kd.R_drewN | apply Kd.R_drew)); exact (Kd.R_mono (Kd.R_far (p := ⟨gb195, 4, none⟩) (Kd.R_far (p := ⟨gb195, 3, none⟩) (Kd.R_types HO219.out BK195.out (by decide)) (fun _ hk => hk.2) (.int .i64 t221)) (fun _ hk => hk.2) (.int .i64 t222)) (fun _ h_ => h_.1))) (Kd.R_typed (by (with_reducible repeat (first | apply Kd.R_alloc | apply Kd.R_drewN | apply Kd.R_drew)); exact (Kd.R_mono (Kd.R_far (p := ⟨gb195, 4, none⟩) (Kd.R_far (p := ⟨gb195, 3, none⟩) (Kd.R_mono HO_4.out (fun k_ hk => (⟨hk, hk.2⟩ : _ ∧ k_ ≠ gb195))) (fun _ hk => hk.2) (.int .i64 t221)) (fun _ hk => hk.2) (.int .i64 t222)) (fun _ h_ => h_.1)))) (by decide) hg); have n3_ := Aside0.mk (hb); have n4_ := Aside0.mk (ho); clear BK194; clear BK195; clear HO219; clear HB; clear HO_4; have BK194 := n0_; have BK195 := n1_; have HO219 := n2_; have HB := n3_; have HO225 := n4_; clear n0_ n1_ n2_ n3_ n4_; clear ho hb hg hat)))
                                go_roundg k1
                                case measure => have := HK1.out; omega
                                case rel => exact ⟨((x3_1 ++ (rdOf ByteArray.empty y217 (ji66))) ++ t216), (y223), (wrap64 (x21_1 + 1)), (by first | rfl | (simp; done) | (simp only [← hji66] <;> (first | rfl | simp)) | (simp [*]; done)), (by first | rfl | (simp; done) | (simp [*]; done)), H', ⟨by have := HK1.out; omega⟩, ⟨by (with_reducible repeat (first | apply Kd.R_alloc | apply Kd.R_drewN | apply Kd.R_drew)); exact Kd.R_mono HO225.out (fun _ hk => trivial)⟩, ⟨by repeat (first | (with_reducible first | exact HB.out | apply below_alloc | apply pw_below_drewN | apply below_drew1 | refine below_set ?_ GE194.out | refine below_set ?_ GE195.out) | exact HB.out)⟩⟩
                              · rw [if_neg c72] at H
                                exact absurd H (by simp)
                            · rw [if_neg c71] at H
                              exact absurd H (by simp)
                          · rw [if_neg c69] at H
                            exact absurd H (by simp)
                        · rw [if_neg c68] at H
                          exact absurd H (by simp)
                      · rw [if_neg c67] at H
                        exact absurd H (by simp)
                    · rw [if_neg c64] at H
                      have c64b0 : ((Go.bits .and .i64 ((rd_T45 l0 x21_1).f0) 3) == 2) = false := beq_eq_false_iff_ne.mpr c64
                      have c64b1 : ((Go.bits .and .i64 ((rd_T45 l0 x21_1).f0) 3) != 2) = true := bne_iff_ne.mpr c64
                      replace H := Option.bind_eq_some_iff.mp H
                      obtain ⟨t226, A870, H⟩ := H
                      replace H : ((some (([(⟨#[32]⟩ : ByteArray), (⟨#[10]⟩ : ByteArray), (⟨#[9, 32, 13, 10]⟩ : ByteArray), (⟨#[32, 47, 47, 32, 110, 111, 32, 116, 111, 107, 101, 110, 32, 38, 38, 32, 53, 10]⟩ : ByteArray), (⟨#[10, 47, 47, 10]⟩ : ByteArray)] : List ByteArray) : List ByteArray)).bind fun y227 => (if 0 ≤ (wrap64 (Int.tmod (IntKind.u64.wrap ((rd_T45 l0 x21_1).f2)) 5)) then (if (wrap64 (Int.tmod (IntKind.u64.wrap ((rd_T45 l0 x21_1).f2)) 5)) < (y227.length : Int) then (if x3_1.size + (rdOf ByteArray.empty y227 (wrap64 (Int.tmod (IntKind.u64.wrap ((rd_T45 l0 x21_1).f2)) 5))).size ≤ 9223372036854775807 then ((palingslaw02_place.f k1 (x3_1 ++ (rdOf ByteArray.empty y227 (wrap64 (Int.tmod (IntKind.u64.wrap ((rd_T45 l0 x21_1).f2)) 5)))) ((x3_1 ++ (rdOf ByteArray.empty y227 (wrap64 (Int.tmod (IntKind.u64.wrap ((rd_T45 l0 x21_1).f2)) 5)))).size : Int)).bind fun bt231 => (if (x3_1 ++ (rdOf ByteArray.empty y227 (wrap64 (Int.tmod (IntKind.u64.wrap ((rd_T45 l0 x21_1).f2)) 5)))).size + t226.size ≤ 9223372036854775807 then (if x4_1.length < 2932031007402 then (palingslaw02_LexPieces.l0 k1 ((x3_1 ++ (rdOf ByteArray.empty y227 (wrap64 (Int.tmod (IntKind.u64.wrap ((rd_T45 l0 x21_1).f2)) 5)))) ++ t226) (x4_1 ++ [(⟨4, t226, 0, (⟨bt231.1, bt231.2⟩ : S26)⟩ : S34)]) l0 (l0.length : Int) (wrap64 (x21_1 + 1))) else (none)) else (none))) else (none)) else (none)) else (none))) = some r := H
                      have A87 := Aside0.mk A870
                      clear A870
                      obtain ⟨y227, hy227⟩ : ∃ y_ : List ByteArray, y_ = (([(⟨#[32]⟩ : ByteArray), (⟨#[10]⟩ : ByteArray), (⟨#[9, 32, 13, 10]⟩ : ByteArray), (⟨#[32, 47, 47, 32, 110, 111, 32, 116, 111, 107, 101, 110, 32, 38, 38, 32, 53, 10]⟩ : ByteArray), (⟨#[10, 47, 47, 10]⟩ : ByteArray)] : List ByteArray)) := ⟨_, rfl⟩
                      replace H : (if 0 ≤ (wrap64 (Int.tmod (IntKind.u64.wrap ((rd_T45 l0 x21_1).f2)) 5)) then (if (wrap64 (Int.tmod (IntKind.u64.wrap ((rd_T45 l0 x21_1).f2)) 5)) < (y227.length : Int) then (if x3_1.size + (rdOf ByteArray.empty y227 (wrap64 (Int.tmod (IntKind.u64.wrap ((rd_T45 l0 x21_1).f2)) 5))).size ≤ 9223372036854775807 then ((palingslaw02_place.f k1 (x3_1 ++ (rdOf ByteArray.empty y227 (wrap64 (Int.tmod (IntKind.u64.wrap ((rd_T45 l0 x21_1).f2)) 5)))) ((x3_1 ++ (rdOf ByteArray.empty y227 (wrap64 (Int.tmod (IntKind.u64.wrap ((rd_T45 l0 x21_1).f2)) 5)))).size : Int)).bind fun bt231 => (if (x3_1 ++ (rdOf ByteArray.empty y227 (wrap64 (Int.tmod (IntKind.u64.wrap ((rd_T45 l0 x21_1).f2)) 5)))).size + t226.size ≤ 9223372036854775807 then (if x4_1.length < 2932031007402 then (palingslaw02_LexPieces.l0 k1 ((x3_1 ++ (rdOf ByteArray.empty y227 (wrap64 (Int.tmod (IntKind.u64.wrap ((rd_T45 l0 x21_1).f2)) 5)))) ++ t226) (x4_1 ++ [(⟨4, t226, 0, (⟨bt231.1, bt231.2⟩ : S26)⟩ : S34)]) l0 (l0.length : Int) (wrap64 (x21_1 + 1))) else (none)) else (none))) else (none)) else (none)) else (none)) = some r := by first | (rw [hy227]; with_reducible exact H) | (have H2_ := (Option.bind_some _ _).symm.trans H; rw [hy227]; with_reducible exact H2_) | (have H2_ := (Option.bind_some _ _).symm.trans H; with_reducible exact H2_) | with_reducible exact H | (rw [hy227]; exact H) | exact H
                      have Ny227 := Aside0.mk hy227
                      clear hy227
                      obtain ⟨ji88, hji88⟩ : ∃ j_ : Int, (wrap64 (Int.tmod (IntKind.u64.wrap ((rd_T45 l0 x21_1).f2)) 5)) = j_ := ⟨_, rfl⟩
                      replace H : (if 0 ≤ (ji88) then (if (ji88) < (y227.length : Int) then (if x3_1.size + (rdOf ByteArray.empty y227 (ji88)).size ≤ 9223372036854775807 then ((palingslaw02_place.f k1 (x3_1 ++ (rdOf ByteArray.empty y227 (ji88))) ((x3_1 ++ (rdOf ByteArray.empty y227 (ji88))).size : Int)).bind fun bt231 => (if (x3_1 ++ (rdOf ByteArray.empty y227 (ji88))).size + t226.size ≤ 9223372036854775807 then (if x4_1.length < 2932031007402 then (palingslaw02_LexPieces.l0 k1 ((x3_1 ++ (rdOf ByteArray.empty y227 (ji88))) ++ t226) (x4_1 ++ [(⟨4, t226, 0, (⟨bt231.1, bt231.2⟩ : S26)⟩ : S34)]) l0 (l0.length : Int) (wrap64 (x21_1 + 1))) else (none)) else (none))) else (none)) else (none)) else (none)) = some r := by first | (rw [hji88] at H; exact H) | (simp only [hji88] at H ⊢; exact H)
                      (try rw [hji88] at A87)
                      have hji88w : (IntKind.i64.wrap (Int.tmod (IntKind.u64.wrap ((rd_T45 l0 x21_1).f2)) 5)) = ji88 := (i64_w _).trans hji88
                      by_cases c89 : 0 ≤ (ji88)
                      · rw [if_pos c89] at H
                        have c89b0 : decide (0 ≤ (ji88)) = true := decide_eq_true c89
                        clear c89
                        by_cases c90 : (ji88) < (y227.length : Int)
                        · rw [if_pos c90] at H
                          have c90b0 : decide ((ji88) < (y227.length : Int)) = true := decide_eq_true c90
                          clear c90
                          by_cases c91 : x3_1.size + (rdOf ByteArray.empty y227 (ji88)).size ≤ 9223372036854775807
                          · rw [if_pos c91] at H
                            have c91b0 := eq_true c91
                            have c91b1 : decide (x3_1.size + (rdOf ByteArray.empty y227 (ji88)).size ≤ 9223372036854775807) = true := decide_eq_true c91
                            try have c91b2 : (9223372036854775807 < x3_1.size + (rdOf ByteArray.empty y227 (ji88)).size) = False := eq_false (Nat.not_lt.2 c91)
                            replace H := Option.bind_eq_some_iff.mp H
                            obtain ⟨⟨t231, t232⟩, A920, H⟩ := H
                            replace H : (if (x3_1 ++ (rdOf ByteArray.empty y227 (ji88))).size + t226.size ≤ 9223372036854775807 then (if x4_1.length < 2932031007402 then (palingslaw02_LexPieces.l0 k1 ((x3_1 ++ (rdOf ByteArray.empty y227 (ji88))) ++ t226) (x4_1 ++ [(⟨4, t226, 0, (⟨t231, t232⟩ : S26)⟩ : S34)]) l0 (l0.length : Int) (wrap64 (x21_1 + 1))) else (none)) else (none)) = some r := H
                            rw [ByteArray.size_append, Int.natCast_add] at A920
                            have A92 := Aside0.mk A920
                            clear A920
                            by_cases c93 : (x3_1 ++ (rdOf ByteArray.empty y227 (ji88))).size + t226.size ≤ 9223372036854775807
                            · rw [if_pos c93] at H
                              have c93b0 := eq_true c93
                              have c93b1 : decide ((x3_1 ++ (rdOf ByteArray.empty y227 (ji88))).size + t226.size ≤ 9223372036854775807) = true := decide_eq_true c93
                              try have c93b2 : (9223372036854775807 < (x3_1 ++ (rdOf ByteArray.empty y227 (ji88))).size + t226.size) = False := eq_false (Nat.not_lt.2 c93)
                              try (have c93b3 := c93; simp only [ByteArray.size_append, show (⟨#[120]⟩ : ByteArray).size = 1 from rfl, show (⟨#[95, 89]⟩ : ByteArray).size = 2 from rfl] at c93b3; replace c93b3 := eq_false (Nat.not_lt.2 c93b3))
                              by_cases c94 : x4_1.length < 2932031007402
                              · rw [if_pos c94] at H
                                have LMc94 := Aside0.mk c94
                                clear c94
                                obtain ⟨y233, hy233⟩ : ∃ y_ : List (S34), y_ = (x4_1 ++ [(⟨4, t226, 0, (⟨t231, t232⟩ : S26)⟩ : S34)]) := ⟨_, rfl⟩
                                replace H : (palingslaw02_LexPieces.l0 k1 ((x3_1 ++ (rdOf ByteArray.empty y227 (ji88))) ++ t226) y233 l0 (l0.length : Int) (wrap64 (x21_1 + 1))) = some r := by first | (rw [hy233]; with_reducible exact H) | (have H2_ := (Option.bind_some _ _).symm.trans H; rw [hy233]; with_reducible exact H2_) | (have H2_ := (Option.bind_some _ _).symm.trans H; with_reducible exact H2_) | with_reducible exact H | (rw [hy233]; exact H) | exact H
                                have Ny233 := Aside0.mk hy233
                                clear hy233
                                have H' := Aside0.mk H
                                clear H
                                have p193 : 0 ≤ (x21_1 : Int) := of_decide_eq_true (by first | (with_reducible assumption) | assumption)
                                have q193 : x21_1 < (l0.length : Int) := of_decide_eq_true (by first | (with_reducible assumption) | assumption)
                                obtain ⟨ad193, e193, hx193_0, hx193_1, hx193_2⟩ := at_T45 HR0.out x21_1 p193 q193
                                cases e193
                                replace hx193_0 := (HB.out.cell (World.block_lt_of_cell? w _ hx193_0)).trans hx193_0
                                replace hx193_1 := (HB.out.cell (World.block_lt_of_cell? w _ hx193_1)).trans hx193_1
                                replace hx193_2 := (HB.out.cell (World.block_lt_of_cell? w _ hx193_2)).trans hx193_2
                                replace p193 := eq_true p193
                                replace q193 := eq_true q193
                                iterate 8 ((try go_quiet (fail)); go_wp2_with (first | ((with_reducible refine gate_dst (N := 6) rfl ?_); (try (refine gate_guard (by rfl) ?_; dsimp only)); refine box_event ?hg (N := 6) ?hd (cs := #[.int .i64 0, .int .i64 0, .int .i64 0]) (t := 45) ?hr ?_; (case hd => rfl); (case hg => rfl); (case hr => first | (go_simp; done) | (go_simp; rfl)); intro gb194 hg w95 hbox hb; have n0_ := Aside0.mk (Kd.R_below (by (with_reducible repeat (first | apply Kd.R_alloc | apply Kd.R_drewN | apply Kd.R_drew)); exact HO_4.out) hb); have n1_ := Aside0.mk (below_step (by repeat (first | (with_reducible first | exact HB.out | apply below_alloc | apply pw_below_drewN | apply below_drew1) | exact HB.out)) hb); have n2_ := Aside0.mk (hbox); have n3_ := Aside0.mk ((by rw [hg]; exact (below_size (by repeat (first | (with_reducible first | exact HB.out | apply below_alloc | apply pw_below_drewN | apply below_drew1) | exact HB.out))) : w.heap.size ≤ gb194)); have n4_ := Aside0.mk ((by rw [hg]; exact (below_size (by repeat (first | (with_reducible first | exact HB.out | apply below_alloc | apply pw_below_drewN | apply below_drew1) | exact HB.out))) : w.heap.size ≤ gb194)); clear HO_4; clear HB; have HO_4 := n0_; have HB := n1_; have BK194 := n2_; have GW194 := n3_; have GE194 := n4_; clear n0_ n1_ n2_ n3_ n4_; clear hb hbox hg; have hcz96_0 : w95.cell? ⟨gb194, 0, none⟩ = some (.int .i64 0) := (blk_cell BK194.out 0).trans rfl; have hcz96_1 : w95.cell? ⟨gb194, 1, none⟩ = some (.int .i64 0) := (blk_cell BK194.out 1).trans rfl; have hcz96_2 : w95.cell? ⟨gb194, 2, none⟩ = some (.int .i64 0) := (blk_cell BK194.out 2).trans rfl; have hfz96_0 := blk_frozen BK194.out 0; have hfz96_1 := blk_frozen BK194.out 1; have hfz96_2 := blk_frozen BK194.out 2) | ((with_reducible refine gate_dst (N := 9) rfl ?_); (try (refine gate_guard (by rfl) ?_; dsimp only)); refine box_event ?hg (N := 9) ?hd (cs := #[.int .i64 0, .string (⟨#[]⟩ : ByteArray), .int .i64 0, .int .i64 0, .int .i64 0]) (t := 34) ?hr ?_; (case hd => rfl); (case hg => rfl); (case hr => first | (go_simp; done) | (go_simp; rfl)); intro gb195 hg w97 hbox hb; have n0_ := Aside0.mk (Kd.R_below (Kd.R_elderB (by (with_reducible repeat (first | apply Kd.R_alloc | apply Kd.R_drewN | apply Kd.R_drew)); exact (Kd.R_mono (Kd.R_far (p := ⟨gb194, 2, none⟩) (Kd.R_far (p := ⟨gb194, 1, none⟩) (Kd.R_far (p := ⟨gb194, 0, none⟩) (Kd.R_types HO_4.out BK194.out (by decide)) (fun _ hk => hk.2) (.int .i64 ((rd_T45 l0 x21_1).f0))) (fun _ hk => hk.2) (.int .i64 ((rd_T45 l0 x21_1).f1))) (fun _ hk => hk.2) (.int .i64 ((rd_T45 l0 x21_1).f2))) (fun _ h_ => h_.1))) gb195 (Nat.le_of_eq hg.symm)) hb); have n1_ := Aside0.mk (blk_below (g := gb194) (o := .cells #[.int .i64 ((rd_T45 l0 x21_1).f0), .int .i64 ((rd_T45 l0 x21_1).f1), .int .i64 ((rd_T45 l0 x21_1).f2)] 45 (0, 0)) (by (with_reducible repeat (first | refine blk_drewN ?_ _ | refine blk_drew ?_ | refine blk_alloc ?_ _)); refine blk_put (cs := #[.int .i64 ((rd_T45 l0 x21_1).f0), .int .i64 ((rd_T45 l0 x21_1).f1), .int .i64 0]) ?_ 2 _ rfl; (with_reducible repeat (first | refine blk_drewN ?_ _ | refine blk_drew ?_ | refine blk_alloc ?_ _)); refine blk_put (cs := #[.int .i64 ((rd_T45 l0 x21_1).f0), .int .i64 0, .int .i64 0]) ?_ 1 _ rfl; (with_reducible repeat (first | refine blk_drewN ?_ _ | refine blk_drew ?_ | refine blk_alloc ?_ _)); refine blk_put (cs := #[.int .i64 0, .int .i64 0, .int .i64 0]) ?_ 0 _ rfl; (with_reducible repeat (first | refine blk_drewN ?_ _ | refine blk_drew ?_ | refine blk_alloc ?_ _)); exact BK194.out) hb); have n2_ := Aside0.mk (below_step (by repeat (first | (with_reducible first | exact HB.out | apply below_alloc | apply pw_below_drewN | apply below_drew1 | refine below_set ?_ GE194.out) | exact HB.out)) hb); have n3_ := Aside0.mk (hbox); have n4_ := Aside0.mk ((by rw [hg]; exact (below_size (by repeat (first | (with_reducible first | exact HB.out | apply below_alloc | apply pw_below_drewN | apply below_drew1 | refine below_set ?_ GE194.out) | exact HB.out))) : w.heap.size ≤ gb195)); have n5_ := Aside0.mk ((by rw [hg]; exact (below_size (by repeat (first | (with_reducible first | exact HB.out | apply below_alloc | apply pw_below_drewN | apply below_drew1 | refine below_set ?_ GE194.out) | exact HB.out))) : w.heap.size ≤ gb195)); have n6_ := Aside0.mk ((by rw [hg]; exact Nat.ne_of_lt (blk_lt (g := gb194) (o := .cells #[.int .i64 ((rd_T45 l0 x21_1).f0), .int .i64 ((rd_T45 l0 x21_1).f1), .int .i64 ((rd_T45 l0 x21_1).f2)] 45 (0, 0)) (by (with_reducible repeat (first | refine blk_drewN ?_ _ | refine blk_drew ?_ | refine blk_alloc ?_ _)); refine blk_put (cs := #[.int .i64 ((rd_T45 l0 x21_1).f0), .int .i64 ((rd_T45 l0 x21_1).f1), .int .i64 0]) ?_ 2 _ rfl; (with_reducible repeat (first | refine blk_drewN ?_ _ | refine blk_drew ?_ | refine blk_alloc ?_ _)); refine blk_put (cs := #[.int .i64 ((rd_T45 l0 x21_1).f0), .int .i64 0, .int .i64 0]) ?_ 1 _ rfl; (with_reducible repeat (first | refine blk_drewN ?_ _ | refine blk_drew ?_ | refine blk_alloc ?_ _)); refine blk_put (cs := #[.int .i64 0, .int .i64 0, .int .i64 0]) ?_ 0 _ rfl; (with_reducible repeat (first | refine blk_drewN ?_ _ | refine blk_drew ?_ | refine blk_alloc ?_ _)); exact BK194.out)) : gb194 ≠ gb195)); have n7_ := Aside0.mk ((by rw [hg]; exact Nat.ne_of_gt (blk_lt (g := gb194) (o := .cells #[.int .i64 ((rd_T45 l0 x21_1).f0), .int .i64 ((rd_T45 l0 x21_1).f1), .int .i64 ((rd_T45 l0 x21_1).f2)] 45 (0, 0)) (by (with_reducible repeat (first | refine blk_drewN ?_ _ | refine blk_drew ?_ | refine blk_alloc ?_ _)); refine blk_put (cs := #[.int .i64 ((rd_T45 l0 x21_1).f0), .int .i64 ((rd_T45 l0 x21_1).f1), .int .i64 0]) ?_ 2 _ rfl; (with_reducible repeat (first | refine blk_drewN ?_ _ | refine blk_drew ?_ | refine blk_alloc ?_ _)); refine blk_put (cs := #[.int .i64 ((rd_T45 l0 x21_1).f0), .int .i64 0, .int .i64 0]) ?_ 1 _ rfl; (with_reducible repeat (first | refine blk_drewN ?_ _ | refine blk_drew ?_ | refine blk_alloc ?_ _)); refine blk_put (cs := #[.int .i64 0, .int .i64 0, .int .i64 0]) ?_ 0 _ rfl; (with_reducible repeat (first | refine blk_drewN ?_ _ | refine blk_drew ?_ | refine blk_alloc ?_ _)); exact BK194.out)) : gb195 ≠ gb194)); clear HO_4; clear BK194; clear HB; have HO_4 := n0_; have BK194 := n1_; have HB := n2_; have BK195 := n3_; have GW195 := n4_; have GE195 := n5_; have NB194_195 := n6_; have NB195_194 := n7_; clear n0_ n1_ n2_ n3_ n4_ n5_ n6_ n7_; clear hb hbox hg; have hnb98 := NB195_194.out; have hnc98 := NB194_195.out; have hcz99_0 : w97.cell? ⟨gb195, 0, none⟩ = some (.int .i64 0) := (blk_cell BK195.out 0).trans rfl; have hcz99_1 : w97.cell? ⟨gb195, 1, none⟩ = some (.string (⟨#[]⟩ : ByteArray)) := (blk_cell BK195.out 1).trans rfl; have hcz99_2 : w97.cell? ⟨gb195, 2, none⟩ = some (.int .i64 0) := (blk_cell BK195.out 2).trans rfl; have hcz99_3 : w97.cell? ⟨gb195, 3, none⟩ = some (.int .i64 0) := (blk_cell BK195.out 3).trans rfl; have hcz99_4 : w97.cell? ⟨gb195, 4, none⟩ = some (.int .i64 0) := (blk_cell BK195.out 4).trans rfl; have hfz99_0 := blk_frozen BK195.out 0; have hfz99_1 := blk_frozen BK195.out 1; have hfz99_2 := blk_frozen BK195.out 2; have hfz99_3 := blk_frozen BK195.out 3; have hfz99_4 := blk_frozen BK195.out 4; obtain ⟨wa_, wcap_, hwa_, hj_⟩ := tab_fact GM.out (by decide) (by decide) _ _ A87.out; obtain ⟨jt_, hjt_⟩ : ∃ j_ : Int, wrap64 (Int.tmod ((Go.bits .and .i64 ((rd_T45 l0 x21_1).f1) 65535)) 28) = j_ := ⟨_, rfl⟩; obtain ⟨hwb_, hp_, hq_⟩ := hj_ _ hjt_; clear hj_; have hjw_ : IntKind.i64.wrap (Int.tmod ((Go.bits .and .i64 ((rd_T45 l0 x21_1).f1) 65535)) 28) = jt_ := (i64_w _).trans hjt_; have hjr_ : Int.tmod ((Go.bits .and .i64 ((rd_T45 l0 x21_1).f1) 65535)) 28 = jt_ := (tmod_wrap _ _ (by decide) (by decide)).symm.trans hjt_; have nw_ : (⟨0, 0, none⟩ : Addr).block ≠ gb195 := Nat.ne_of_lt (Nat.lt_of_lt_of_le (World.block_lt_of_cell? w _ hwa_) GE195.out); have nv_ : (wa_.add jt_.toNat).block ≠ gb195 := Nat.ne_of_lt (Nat.lt_of_lt_of_le (World.block_lt_of_cell? w _ hwb_) GE195.out); replace hwa_ : w.cell? ⟨0, 0, none⟩ = some (.slice (some wa_) 28 wcap_) := hwa_; replace hwa_ := Mine.cell_below hwa_ HB.out; replace hwb_ := Mine.cell_below hwb_ HB.out; have hpd_ : decide (0 ≤ jt_) = true := decide_eq_true hp_; have hqd_ : decide (jt_ < 28) = true := decide_eq_true hq_; replace hp_ := eq_true hp_; replace hq_ : (jt_ < 28) = True := eq_true hq_; replace hwa_ := (cell_far (p := ⟨gb195, 0, none⟩) (by exact nw_) (.int .i64 0)).trans hwa_; replace hwb_ := (cell_far (p := ⟨gb195, 0, none⟩) (by exact nv_) (.int .i64 0)).trans hwb_; replace hwa_ := (cell_far (p := ⟨gb195, 1, none⟩) (by exact nw_) (.string (⟨#[]⟩ : ByteArray))).trans hwa_; replace hwb_ := (cell_far (p := ⟨gb195, 1, none⟩) (by exact nv_) (.string (⟨#[]⟩ : ByteArray))).trans hwb_; replace hwa_ := (cell_far (p := ⟨gb195, 2, none⟩) (by exact nw_) (.int .i64 0)).trans hwa_; replace hwb_ := (cell_far (p := ⟨gb195, 2, none⟩) (by exact nv_) (.int .i64 0)).trans hwb_; replace hwa_ := (cell_far (p := ⟨gb195, 3, none⟩) (by exact nw_) (.int .i64 0)).trans hwa_; replace hwb_ := (cell_far (p := ⟨gb195, 3, none⟩) (by exact nv_) (.int .i64 0)).trans hwb_; replace hwa_ := (cell_far (p := ⟨gb195, 4, none⟩) (by exact nw_) (.int .i64 0)).trans hwa_; replace hwb_ := (cell_far (p := ⟨gb195, 4, none⟩) (by exact nv_) (.int .i64 0)).trans hwb_; have hcz100_0 : w97.cell? ⟨gb194, 0, none⟩ = some (.int .i64 ((rd_T45 l0 x21_1).f0)) := (blk_cell BK194.out 0).trans rfl; have hcz100_1 : w97.cell? ⟨gb194, 1, none⟩ = some (.int .i64 ((rd_T45 l0 x21_1).f1)) := (blk_cell BK194.out 1).trans rfl; have hcz100_2 : w97.cell? ⟨gb194, 2, none⟩ = some (.int .i64 ((rd_T45 l0 x21_1).f2)) := (blk_cell BK194.out 2).trans rfl; have hfz100_0 := blk_frozen BK194.out 0; have hfz100_1 := blk_frozen BK194.out 1; have hfz100_2 := blk_frozen BK194.out 2) | ((with_reducible refine gate_dst (N := 65) rfl ?_); (try (refine gate_guard (by rfl) ?_; dsimp only)); refine Kd.R_lit Kd.string _ 9 ?hg (N := 65) ?hd (xs := ([(⟨#[32]⟩ : ByteArray), (⟨#[10]⟩ : ByteArray), (⟨#[9, 32, 13, 10]⟩ : ByteArray), (⟨#[32, 47, 47, 32, 110, 111, 32, 116, 111, 107, 101, 110, 32, 38, 38, 32, 53, 10]⟩ : ByteArray), (⟨#[10, 47, 47, 10]⟩ : ByteArray)] : List ByteArray)) (inner := [.string (⟨#[32]⟩ : ByteArray), .string (⟨#[10]⟩ : ByteArray), .string (⟨#[9, 32, 13, 10]⟩ : ByteArray), .string (⟨#[32, 47, 47, 32, 110, 111, 32, 116, 111, 107, 101, 110, 32, 38, 38, 32, 53, 10]⟩ : ByteArray), .string (⟨#[10, 47, 47, 10]⟩ : ByteArray)]) (ok := fun _ => True) (okp := fun _ => True) ?hr ?hp (fun _ hk => hk) trivial (Below.refl _ _) (Nat.le_refl _) (by simp) ?_; (case hd => rfl); (case hg => rfl); (case hr => first | (go_simp; done) | (go_simp; rfl)); (case hp => exact (Reps.one (show Kd.M Kd.string _ _ _ (⟨#[32]⟩ : ByteArray) [.string (⟨#[32]⟩ : ByteArray)] from rfl) (Reps.one (show Kd.M Kd.string _ _ _ (⟨#[10]⟩ : ByteArray) [.string (⟨#[10]⟩ : ByteArray)] from rfl) (Reps.one (show Kd.M Kd.string _ _ _ (⟨#[9, 32, 13, 10]⟩ : ByteArray) [.string (⟨#[9, 32, 13, 10]⟩ : ByteArray)] from rfl) (Reps.one (show Kd.M Kd.string _ _ _ (⟨#[32, 47, 47, 32, 110, 111, 32, 116, 111, 107, 101, 110, 32, 38, 38, 32, 53, 10]⟩ : ByteArray) [.string (⟨#[32, 47, 47, 32, 110, 111, 32, 116, 111, 107, 101, 110, 32, 38, 38, 32, 53, 10]⟩ : ByteArray)] from rfl) (Reps.one (show Kd.M Kd.string _ _ _ (⟨#[10, 47, 47, 10]⟩ : ByteArray) [.string (⟨#[10, 47, 47, 10]⟩ : ByteArray)] from rfl) (Reps.none _ _))))))); intro v228 w101 ho102 hb hg_ hnew_; clear hg_ hnew_; (first | rw [← Ny227.out] at ho102 | (simp only [Int.reduceToNat] at ho102; rw [← Ny227.out] at ho102)); have n0_ := Aside0.mk (Kd.R_below (by (with_reducible repeat (first | apply Kd.R_alloc | apply Kd.R_drewN | apply Kd.R_drew)); exact (Kd.R_mono (Kd.R_far (p := ⟨gb195, 0, none⟩) (Kd.R_far (p := ⟨gb195, 4, none⟩) (Kd.R_far (p := ⟨gb195, 3, none⟩) (Kd.R_far (p := ⟨gb195, 2, none⟩) (Kd.R_far (p := ⟨gb195, 1, none⟩) (Kd.R_far (p := ⟨gb195, 0, none⟩) (Kd.R_mono HO_4.out (fun k_ hk => (⟨hk, hk.2⟩ : _ ∧ k_ ≠ gb195))) (fun _ hk => hk.2) (.int .i64 0)) (fun _ hk => hk.2) (.string (⟨#[]⟩ : ByteArray))) (fun _ hk => hk.2) (.int .i64 0)) (fun _ hk => hk.2) (.int .i64 0)) (fun _ hk => hk.2) (.int .i64 0)) (fun _ hk => hk.2) (.int .i64 4)) (fun _ h_ => h_.1))) hb); have n1_ := Aside0.mk (Kd.R_lower ho102 (below_size (by repeat (first | (with_reducible first | exact HB.out | apply below_alloc | apply pw_below_drewN | apply below_drew1 | refine below_set ?_ GE194.out | refine below_set ?_ GE195.out) | exact HB.out)))); have n2_ := Aside0.mk (blk_below (g := gb194) (o := .cells #[.int .i64 ((rd_T45 l0 x21_1).f0), .int .i64 ((rd_T45 l0 x21_1).f1), .int .i64 ((rd_T45 l0 x21_1).f2)] 45 (0, 0)) (by (with_reducible repeat (first | refine blk_drewN ?_ _ | refine blk_drew ?_ | refine blk_alloc ?_ _)); refine blk_far ?_ NB194_195.out _; (with_reducible repeat (first | refine blk_drewN ?_ _ | refine blk_drew ?_ | refine blk_alloc ?_ _)); refine blk_far ?_ NB194_195.out _; (with_reducible repeat (first | refine blk_drewN ?_ _ | refine blk_drew ?_ | refine blk_alloc ?_ _)); refine blk_far ?_ NB194_195.out _; (with_reducible repeat (first | refine blk_drewN ?_ _ | refine blk_drew ?_ | refine blk_alloc ?_ _)); refine blk_far ?_ NB194_195.out _; (with_reducible repeat (first | refine blk_drewN ?_ _ | refine blk_drew ?_ | refine blk_alloc ?_ _)); refine blk_far ?_ NB194_195.out _; (with_reducible repeat (first | refine blk_drewN ?_ _ | refine blk_drew ?_ | refine blk_alloc ?_ _)); refine blk_far ?_ NB194_195.out _; (with_reducible repeat (first | refine blk_drewN ?_ _ | refine blk_drew ?_ | refine blk_alloc ?_ _)); exact BK194.out) hb); have n3_ := Aside0.mk (blk_below (g := gb195) (o := .cells #[.int .i64 4, .string (⟨#[]⟩ : ByteArray), .int .i64 0, .int .i64 0, .int .i64 0] 34 (0, 0)) (by (with_reducible repeat (first | refine blk_drewN ?_ _ | refine blk_drew ?_ | refine blk_alloc ?_ _)); refine blk_put (cs := #[.int .i64 0, .string (⟨#[]⟩ : ByteArray), .int .i64 0, .int .i64 0, .int .i64 0]) ?_ 0 _ rfl; (with_reducible repeat (first | refine blk_drewN ?_ _ | refine blk_drew ?_ | refine blk_alloc ?_ _)); refine blk_put (cs := #[.int .i64 0, .string (⟨#[]⟩ : ByteArray), .int .i64 0, .int .i64 0, .int .i64 0]) ?_ 4 _ rfl; (with_reducible repeat (first | refine blk_drewN ?_ _ | refine blk_drew ?_ | refine blk_alloc ?_ _)); refine blk_put (cs := #[.int .i64 0, .string (⟨#[]⟩ : ByteArray), .int .i64 0, .int .i64 0, .int .i64 0]) ?_ 3 _ rfl; (with_reducible repeat (first | refine blk_drewN ?_ _ | refine blk_drew ?_ | refine blk_alloc ?_ _)); refine blk_put (cs := #[.int .i64 0, .string (⟨#[]⟩ : ByteArray), .int .i64 0, .int .i64 0, .int .i64 0]) ?_ 2 _ rfl; (with_reducible repeat (first | refine blk_drewN ?_ _ | refine blk_drew ?_ | refine blk_alloc ?_ _)); refine blk_put (cs := #[.int .i64 0, .string (⟨#[]⟩ : ByteArray), .int .i64 0, .int .i64 0, .int .i64 0]) ?_ 1 _ rfl; (with_reducible repeat (first | refine blk_drewN ?_ _ | refine blk_drew ?_ | refine blk_alloc ?_ _)); refine blk_put (cs := #[.int .i64 0, .string (⟨#[]⟩ : ByteArray), .int .i64 0, .int .i64 0, .int .i64 0]) ?_ 0 _ rfl; (with_reducible repeat (first | refine blk_drewN ?_ _ | refine blk_drew ?_ | refine blk_alloc ?_ _)); exact BK195.out) hb); have n4_ := Aside0.mk (below_step (by repeat (first | (with_reducible first | exact HB.out | apply below_alloc | apply pw_below_drewN | apply below_drew1 | refine below_set ?_ GE194.out | refine below_set ?_ GE195.out) | exact HB.out)) hb); clear HO_4; clear BK194; clear BK195; clear HB; have HO_4 := n0_; have HO229 := n1_; have BK194 := n2_; have BK195 := n3_; have HB := n4_; clear n0_ n1_ n2_ n3_ n4_; clear hb ho102; have hcz103_0 : w101.cell? ⟨gb194, 0, none⟩ = some (.int .i64 ((rd_T45 l0 x21_1).f0)) := (blk_cell BK194.out 0).trans rfl; have hcz103_1 : w101.cell? ⟨gb194, 1, none⟩ = some (.int .i64 ((rd_T45 l0 x21_1).f1)) := (blk_cell BK194.out 1).trans rfl; have hcz103_2 : w101.cell? ⟨gb194, 2, none⟩ = some (.int .i64 ((rd_T45 l0 x21_1).f2)) := (blk_cell BK194.out 2).trans rfl; have hfz103_0 := blk_frozen BK194.out 0; have hfz103_1 := blk_frozen BK194.out 1; have hfz103_2 := blk_frozen BK194.out 2; obtain ⟨Ao104, co104, eo104⟩ := Kd.R_slice HO229.out; subst eo104; have p230 : 0 ≤ ((ji88) : Int) := of_decide_eq_true (by first | (with_reducible assumption) | assumption); have q230 : (ji88) < (y227.length : Int) := of_decide_eq_true (by first | (with_reducible assumption) | assumption); obtain ⟨ad230, e230, hx230_0⟩ := Kd.at_string (Kd.R_reads' HO229.out).2.2 (ji88) p230 q230; cases e230; replace p230 := eq_true p230; replace q230 := eq_true q230; have hcz105_0 : w101.cell? ⟨gb195, 0, none⟩ = some (.int .i64 4) := (blk_cell BK195.out 0).trans rfl; have hcz105_1 : w101.cell? ⟨gb195, 1, none⟩ = some (.string (⟨#[]⟩ : ByteArray)) := (blk_cell BK195.out 1).trans rfl; have hcz105_2 : w101.cell? ⟨gb195, 2, none⟩ = some (.int .i64 0) := (blk_cell BK195.out 2).trans rfl; have hcz105_3 : w101.cell? ⟨gb195, 3, none⟩ = some (.int .i64 0) := (blk_cell BK195.out 3).trans rfl; have hcz105_4 : w101.cell? ⟨gb195, 4, none⟩ = some (.int .i64 0) := (blk_cell BK195.out 4).trans rfl; have hfz105_0 := blk_frozen BK195.out 0; have hfz105_1 := blk_frozen BK195.out 1; have hfz105_2 := blk_frozen BK195.out 2; have hfz105_3 := blk_frozen BK195.out 3; have hfz105_4 := blk_frozen BK195.out 4) | (go_at_call 13; (with_reducible refine (palingslaw02_place.calls k1 (x3_1 ++ (rdOf ByteArray.empty y227 (ji88))) ((x3_1.size : Int) + ((rdOf ByteArray.empty y227 (ji88)).size : Int)) t231 t232 _ A92.out).mono ?_); rintro e w106 ⟨rfl, hb⟩; have n0_ := Aside0.mk (Kd.R_below (by (with_reducible repeat (first | apply Kd.R_alloc | apply Kd.R_drewN | apply Kd.R_drew)); exact (Kd.R_mono (Kd.R_far (p := ⟨gb195, 1, none⟩) (Kd.R_mono HO_4.out (fun k_ hk => (⟨hk, hk.2⟩ : _ ∧ k_ ≠ gb195))) (fun _ hk => hk.2) (.string t226)) (fun _ h_ => h_.1))) hb); have n1_ := Aside0.mk (Kd.R_below (by (with_reducible repeat (first | apply Kd.R_alloc | apply Kd.R_drewN | apply Kd.R_drew)); exact (Kd.R_mono (Kd.R_far (p := ⟨gb195, 1, none⟩) (Kd.R_types HO229.out BK195.out (by decide)) (fun _ hk => hk.2) (.string t226)) (fun _ h_ => h_.1))) hb); have n2_ := Aside0.mk (blk_below (g := gb194) (o := .cells #[.int .i64 ((rd_T45 l0 x21_1).f0), .int .i64 ((rd_T45 l0 x21_1).f1), .int .i64 ((rd_T45 l0 x21_1).f2)] 45 (0, 0)) (by (with_reducible repeat (first | refine blk_drewN ?_ _ | refine blk_drew ?_ | refine blk_alloc ?_ _)); refine blk_far ?_ NB194_195.out _; (with_reducible repeat (first | refine blk_drewN ?_ _ | refine blk_drew ?_ | refine blk_alloc ?_ _)); exact BK194.out) hb); have n3_ := Aside0.mk (blk_below (g := gb195) (o := .cells #[.int .i64 4, .string t226, .int .i64 0, .int .i64 0, .int .i64 0] 34 (0, 0)) (by (with_reducible repeat (first | refine blk_drewN ?_ _ | refine blk_drew ?_ | refine blk_alloc ?_ _)); refine blk_put (cs := #[.int .i64 4, .string (⟨#[]⟩ : ByteArray), .int .i64 0, .int .i64 0, .int .i64 0]) ?_ 1 _ rfl; (with_reducible repeat (first | refine blk_drewN ?_ _ | refine blk_drew ?_ | refine blk_alloc ?_ _)); exact BK195.out) hb); have n4_ := Aside0.mk (below_step (by repeat (first | (with_reducible first | exact HB.out | apply below_alloc | apply pw_below_drewN | apply below_drew1 | refine below_set ?_ GE194.out | refine below_set ?_ GE195.out) | exact HB.out)) hb); clear HO_4; clear HO229; clear BK194; clear BK195; clear HB; have HO_4 := n0_; have HO229 := n1_; have BK194 := n2_; have BK195 := n3_; have HB := n4_; clear n0_ n1_ n2_ n3_ n4_; (try clear hb); (try clear hb2); (try clear hk); (try clear hi); have hcz107_0 : w106.cell? ⟨gb195, 0, none⟩ = some (.int .i64 4) := (blk_cell BK195.out 0).trans rfl; have hcz107_1 : w106.cell? ⟨gb195, 1, none⟩ = some (.string t226) := (blk_cell BK195.out 1).trans rfl; have hcz107_2 : w106.cell? ⟨gb195, 2, none⟩ = some (.int .i64 0) := (blk_cell BK195.out 2).trans rfl; have hcz107_3 : w106.cell? ⟨gb195, 3, none⟩ = some (.int .i64 0) := (blk_cell BK195.out 3).trans rfl; have hcz107_4 : w106.cell? ⟨gb195, 4, none⟩ = some (.int .i64 0) := (blk_cell BK195.out 4).trans rfl; have hfz107_0 := blk_frozen BK195.out 0; have hfz107_1 := blk_frozen BK195.out 1; have hfz107_2 := blk_frozen BK195.out 2; have hfz107_3 := blk_frozen BK195.out 3; have hfz107_4 := blk_frozen BK195.out 4) | ((with_reducible refine gate_builtin (b := .append) (xs := #[.tmp 84, .tmp 86]) rfl ?_); (try (refine gate_guard (by rfl) ?_; dsimp only)); at_builtin; refine Kd.R_append k34 (w0 := w) w.heap.size rfl (.tmp 84) (.tmp 86) 23 34 (.agg #[(.int .i64 0), (.string ⟨#[]⟩), (.int .i64 0), (.int .i64 0), (.int .i64 0)]) 48 rfl Tryd.underlying23 info34 rfl (by decide) (by omega) u4 x4_1 (⟨4, t226, 0, (⟨t231, t232⟩ : S26)⟩ : S34) [.int .i64 4, .string t226, .int .i64 0, .int .i64 t231, .int .i64 t232] (fun k_ => k_ ≠ gb195) (fun _ => False) rfl (by first | (go_simp; done) | (go_simp; rfl)) ?aP (fun _ hk => hk.elim) ?aF ?aO ?aB ?aS ?aL ?_; (case aP => exact k34_mkM _ _ _ (⟨4, t226, 0, (⟨t231, t232⟩ : S26)⟩ : S34)); (case aB => exact (by repeat (first | (with_reducible first | exact HB.out | apply below_alloc | apply pw_below_drewN | apply below_drew1 | refine below_set ?_ GE194.out | refine below_set ?_ GE195.out) | exact HB.out))); (case aF => exact (fun k_ hk => Kd.freshB (g := gb195) (o := .cells #[.int .i64 4, .string t226, .int .i64 0, .int .i64 t231, .int .i64 t232] 34 (0, 0)) (by (with_reducible repeat (first | refine blk_drewN ?_ _ | refine blk_drew ?_ | refine blk_alloc ?_ _)); refine blk_put (cs := #[.int .i64 4, .string t226, .int .i64 0, .int .i64 t231, .int .i64 0]) ?_ 4 _ rfl; (with_reducible repeat (first | refine blk_drewN ?_ _ | refine blk_drew ?_ | refine blk_alloc ?_ _)); refine blk_put (cs := #[.int .i64 4, .string t226, .int .i64 0, .int .i64 0, .int .i64 0]) ?_ 3 _ rfl; (with_reducible repeat (first | refine blk_drewN ?_ _ | refine blk_drew ?_ | refine blk_alloc ?_ _)); exact BK195.out) k_ hk)); (case aO => exact (by (with_reducible repeat (first | apply Kd.R_alloc | apply Kd.R_drewN | apply Kd.R_drew)); exact Kd.R_mono (Kd.R_far (p := ⟨gb195, 4, none⟩) (Kd.R_far (p := ⟨gb195, 3, none⟩) (Kd.R_mono HO_4.out (fun k_ hk => (⟨hk, hk.2⟩ : _ ∧ k_ ≠ gb195))) (fun _ hk => hk.2) (.int .i64 t231)) (fun _ hk => hk.2) (.int .i64 t232)) (fun _ hk => hk.1.2))); (case aS => exact (below_size (by repeat (first | (with_reducible first | exact HB.out | apply below_alloc | apply pw_below_drewN | apply below_drew1 | refine below_set ?_ GE194.out | refine below_set ?_ GE195.out) | exact HB.out)))); (case aL => have := LMc94.out; omega); intro v234 w108 ho hb hg hat; rw [← Ny233.out] at ho; have n0_ := Aside0.mk (blk_grown (g := gb194) (o := .cells #[.int .i64 ((rd_T45 l0 x21_1).f0), .int .i64 ((rd_T45 l0 x21_1).f1), .int .i64 ((rd_T45 l0 x21_1).f2)] 45 (0, 0)) (by (with_reducible repeat (first | refine blk_drewN ?_ _ | refine blk_drew ?_ | refine blk_alloc ?_ _)); refine blk_far ?_ NB194_195.out _; (with_reducible repeat (first | refine blk_drewN ?_ _ | refine blk_drew ?_ | refine blk_alloc ?_ _)); refine blk_far ?_ NB194_195.out _; (with_reducible repeat (first | refine blk_drewN ?_ _ | refine blk_drew ?_ | refine blk_alloc ?_ _)); exact BK194.out) hg (Kd.R_ne HO_4.out BK194.out (by decide))); have n1_ := Aside0.mk (blk_grown (g := gb195) (o := .cells #[.int .i64 4, .string t226, .int .i64 0, .int .i64 t231, .int .i64 t232] 34 (0, 0)) (by (with_reducible repeat (first | refine blk_drewN ?_ _ | refine blk_drew ?_ | refine blk_alloc ?_ _)); refine blk_put (cs := #[.int .i64 4, .string t226, .int .i64 0, .int .i64 t231, .int .i64 0]) ?_ 4 _ rfl; (with_reducible repeat (first | refine blk_drewN ?_ _ | refine blk_drew ?_ | refine blk_alloc ?_ _)); refine blk_put (cs := #[.int .i64 4, .string t226, .int .i64 0, .int .i64 0, .int .i64 0]) ?_ 3 _ rfl; (with_reducible repeat (first | refine blk_drewN ?_ _ | refine blk_drew ?_ | refine blk_alloc ?_ _)); exact BK195.out) hg (Kd.R_away HO_4.out (fun _ hk => hk.2))); have n2_ := Aside0.mk (Kd.R_over' (by (with_reducible repeat (first | apply Kd.R_alloc | apply Kd.R_drewN | apply Kd.R_drew)); exact (Kd.R_mono (Kd.R_far (p := ⟨gb195, 4, none⟩) (Kd.R_far (p := ⟨gb195, 3, none⟩) (Kd.R_types HO229.out BK195.out (by decide)) (fun _ hk => hk.2) (.int .i64 t231)) (fun _ hk => hk.2) (.int .i64 t232)) (fun _ h_ => h_.1))) (Kd.R_typed (by (with_reducible repeat (first | apply Kd.R_alloc | apply Kd.R_drewN | apply Kd.R_drew)); exact (Kd.R_mono (Kd.R_far (p := ⟨gb195, 4, none⟩) (Kd.R_far (p := ⟨gb195, 3, none⟩) (Kd.R_mono HO_4.out (fun k_ hk => (⟨hk, hk.2⟩ : _ ∧ k_ ≠ gb195))) (fun _ hk => hk.2) (.int .i64 t231)) (fun _ hk => hk.2) (.int .i64 t232)) (fun _ h_ => h_.1)))) (by decide) hg); have n3_ := Aside0.mk (hb); have n4_ := Aside0.mk (ho); clear BK194; clear BK195; clear HO229; clear HB; clear HO_4; have BK194 := n0_; have BK195 := n1_; have HO229 := n2_; have HB := n3_; have HO235 := n4_; clear n0_ n1_ n2_ n3_ n4_; clear ho hb hg hat)))
                                go_roundg k1
                                case measure => have := HK1.out; omega
                                case rel => exact ⟨((x3_1 ++ (rdOf ByteArray.empty y227 (ji88))) ++ t226), (y233), (wrap64 (x21_1 + 1)), (by first | rfl | (simp; done) | (simp only [← hji88] <;> (first | rfl | simp)) | (simp [*]; done)), (by first | rfl | (simp; done) | (simp [*]; done)), H', ⟨by have := HK1.out; omega⟩, ⟨by (with_reducible repeat (first | apply Kd.R_alloc | apply Kd.R_drewN | apply Kd.R_drew)); exact Kd.R_mono HO235.out (fun _ hk => trivial)⟩, ⟨by repeat (first | (with_reducible first | exact HB.out | apply below_alloc | apply pw_below_drewN | apply below_drew1 | refine below_set ?_ GE194.out | refine below_set ?_ GE195.out) | exact HB.out)⟩⟩
                              · rw [if_neg c94] at H
                                exact absurd H (by simp)
                            · rw [if_neg c93] at H
                              exact absurd H (by simp)
                          · rw [if_neg c91] at H
                            exact absurd H (by simp)
                        · rw [if_neg c90] at H
                          exact absurd H (by simp)
                      · rw [if_neg c89] at H
                        exact absurd H (by simp)
              · rw [if_neg c11] at H
                exact absurd H (by simp)
            · rw [if_neg c10] at H
              exact absurd H (by simp)
          · rw [if_neg c9] at H
            have c9b0 : decide (x21_1 < (l0.length : Int)) = false := decide_eq_false c9
            clear c9
            replace H := Option.bind_eq_some_iff.mp H
            obtain ⟨⟨t236, t237⟩, A1090, H⟩ := H
            replace H : (if x4_1.length < 2932031007402 then ((some (x4_1 ++ [(⟨0, (⟨#[]⟩ : ByteArray), 0, (⟨t236, t237⟩ : S26)⟩ : S34)] : List (S34))).bind fun y238 => ((lex_All.f k1 x3_1).bind fun bt241 => (if (!(bt241.2.1 == 0) || ((!(bt241.2.2.1 == 0) || (!(bt241.2.2.2 == 0))))) = true then (palingslaw02_LexPieces.j1 k1 y238 bt241.1 true) else (palingslaw02_LexPieces.j1 k1 y238 bt241.1 ((bt241.1.length : Int) != (y238.length : Int)))))) else (none)) = some r := H
            have A109 := Aside0.mk A1090
            clear A1090
            by_cases c110 : x4_1.length < 2932031007402
            · rw [if_pos c110] at H
              have LMc110 := Aside0.mk c110
              clear c110
              obtain ⟨y238, hy238⟩ : ∃ y_ : List (S34), y_ = (x4_1 ++ [(⟨0, (⟨#[]⟩ : ByteArray), 0, (⟨t236, t237⟩ : S26)⟩ : S34)]) := ⟨_, rfl⟩
              replace H : ((lex_All.f k1 x3_1).bind fun bt241 => (if (!(bt241.2.1 == 0) || ((!(bt241.2.2.1 == 0) || (!(bt241.2.2.2 == 0))))) = true then (palingslaw02_LexPieces.j1 k1 y238 bt241.1 true) else (palingslaw02_LexPieces.j1 k1 y238 bt241.1 ((bt241.1.length : Int) != (y238.length : Int))))) = some r := by first | (rw [hy238]; with_reducible exact H) | (have H2_ := (Option.bind_some _ _).symm.trans H; rw [hy238]; with_reducible exact H2_) | (have H2_ := (Option.bind_some _ _).symm.trans H; with_reducible exact H2_) | with_reducible exact H | (rw [hy238]; exact H) | exact H
              have Ny238 := Aside0.mk hy238
              clear hy238
              replace H := Option.bind_eq_some_iff.mp H
              obtain ⟨⟨t241, t244, t245, t246⟩, A1110, H⟩ := H
              replace H : (if (!(t244 == 0) || ((!(t245 == 0) || (!(t246 == 0))))) = true then (palingslaw02_LexPieces.j1 k1 y238 t241 true) else (palingslaw02_LexPieces.j1 k1 y238 t241 ((t241.length : Int) != (y238.length : Int)))) = some r := H
              have A111 := Aside0.mk A1110
              clear A1110
              have HC112 := Aside0.mk H
              clear H
              go_upto_region 34 with (first | (go_at_call 13; (with_reducible refine (palingslaw02_place.calls k1 x3_1 (x3_1.size : Int) t236 t237 _ A109.out).mono ?_); rintro e w113 ⟨rfl, hb⟩; have n0_ := Aside0.mk (Kd.R_below (by (with_reducible repeat (first | apply Kd.R_alloc | apply Kd.R_drewN | apply Kd.R_drew)); exact HO_4.out) hb); have n1_ := Aside0.mk (below_step (by repeat (first | (with_reducible first | exact HB.out | apply below_alloc | apply pw_below_drewN | apply below_drew1) | exact HB.out)) hb); clear HO_4; clear HB; have HO_4 := n0_; have HB := n1_; clear n0_ n1_; (try clear hb); (try clear hb2); (try clear hk); (try clear hi)) | ((with_reducible refine gate_builtin (b := .append) (xs := #[.tmp 89, .tmp 95]) rfl ?_); (try (refine gate_guard (by rfl) ?_; dsimp only)); at_builtin; refine Kd.R_append k34 (w0 := w) w.heap.size rfl (.tmp 89) (.tmp 95) 23 34 (.agg #[(.int .i64 0), (.string ⟨#[]⟩), (.int .i64 0), (.int .i64 0), (.int .i64 0)]) 48 rfl Tryd.underlying23 info34 rfl (by decide) (by omega) u4 x4_1 (⟨0, (⟨#[]⟩ : ByteArray), 0, (⟨t236, t237⟩ : S26)⟩ : S34) [.int .i64 0, .string (⟨#[]⟩ : ByteArray), .int .i64 0, .int .i64 t236, .int .i64 t237] (fun _ => True) (fun _ => False) rfl rfl ?aP (fun _ hk => hk.elim) ?aF ?aO ?aB ?aS ?aL ?_; (case aP => exact k34_mkM _ _ _ (⟨0, (⟨#[]⟩ : ByteArray), 0, (⟨t236, t237⟩ : S26)⟩ : S34)); (case aB => exact (by repeat (first | (with_reducible first | exact HB.out | apply below_alloc | apply pw_below_drewN | apply below_drew1) | exact HB.out))); (case aF => exact (fun _ _ => trivial)); (case aO => exact (by (with_reducible repeat (first | apply Kd.R_alloc | apply Kd.R_drewN | apply Kd.R_drew)); exact HO_4.out)); (case aS => exact (below_size (by repeat (first | (with_reducible first | exact HB.out | apply below_alloc | apply pw_below_drewN | apply below_drew1) | exact HB.out)))); (case aL => have := LMc110.out; omega); intro v239 w114 ho hb hg hat; rw [← Ny238.out] at ho; have n0_ := Aside0.mk (hb); have n1_ := Aside0.mk (ho); clear HB; clear HO_4; have HB := n0_; have HO240 := n1_; clear n0_ n1_; clear ho hb hg hat) | (go_at_call 10; (with_reducible refine (lex_All.calls k1 x3_1 t241 t244 t245 t246 _ ?sideG A111.out).mono ?_); (case sideG => exact GL.out.below (by repeat (first | (with_reducible first | exact HB.out | apply below_alloc | apply pw_below_drewN | apply below_drew1) | exact HB.out))); rintro e w115 ⟨v242, rfl, ho0, hb⟩; have n0_ := Aside0.mk (Kd.R_elder' (by (with_reducible repeat (first | apply Kd.R_alloc | apply Kd.R_drewN | apply Kd.R_drew)); exact HO240.out) (Kd.R_base ho0) hb); have n1_ := Aside0.mk (Kd.R_lower (Kd.R_new' ho0 (Kd.R_lt (by (with_reducible repeat (first | apply Kd.R_alloc | apply Kd.R_drewN | apply Kd.R_drew)); exact HO240.out))) (below_size (by repeat (first | (with_reducible first | exact HB.out | apply below_alloc | apply pw_below_drewN | apply below_drew1) | exact HB.out)))); have n2_ := Aside0.mk (below_step (by repeat (first | (with_reducible first | exact HB.out | apply below_alloc | apply pw_below_drewN | apply below_drew1) | exact HB.out)) hb); clear HO240; clear HB; have HO240 := n0_; have HO243 := n1_; have HB := n2_; clear n0_ n1_ n2_; (try clear hb); (try clear hb2); (try clear hk); (try clear hi); (try clear ho0)) | ((with_reducible refine gate_dst (N := 11) rfl ?_); (try (refine gate_guard (by rfl) ?_; dsimp only)); refine box_event ?hg (N := 11) ?hd (cs := #[.int .i64 0, .int .i64 0, .int .i64 0]) (t := 28) ?hr ?_; (case hd => rfl); (case hg => rfl); (case hr => first | (go_simp; done) | (go_simp; rfl)); intro gb247 hg w116 hbox hb; have n0_ := Aside0.mk (Kd.R_below (by (with_reducible repeat (first | apply Kd.R_alloc | apply Kd.R_drewN | apply Kd.R_drew)); exact HO240.out) hb); have n1_ := Aside0.mk (Kd.R_below (by (with_reducible repeat (first | apply Kd.R_alloc | apply Kd.R_drewN | apply Kd.R_drew)); exact HO243.out) hb); have n2_ := Aside0.mk (below_step (by repeat (first | (with_reducible first | exact HB.out | apply below_alloc | apply pw_below_drewN | apply below_drew1) | exact HB.out)) hb); have n3_ := Aside0.mk (hbox); have n4_ := Aside0.mk ((by rw [hg]; exact (below_size (by repeat (first | (with_reducible first | exact HB.out | apply below_alloc | apply pw_below_drewN | apply below_drew1) | exact HB.out))) : w.heap.size ≤ gb247)); have n5_ := Aside0.mk ((by rw [hg]; exact (below_size (by repeat (first | (with_reducible first | exact HB.out | apply below_alloc | apply pw_below_drewN | apply below_drew1) | exact HB.out))) : w.heap.size ≤ gb247)); clear HO240; clear HO243; clear HB; have HO240 := n0_; have HO243 := n1_; have HB := n2_; have BK247 := n3_; have GW247 := n4_; have GE247 := n5_; clear n0_ n1_ n2_ n3_ n4_ n5_; clear hb hbox hg; have hcz117_0 : w116.cell? ⟨gb247, 0, none⟩ = some (.int .i64 0) := (blk_cell BK247.out 0).trans rfl; have hcz117_1 : w116.cell? ⟨gb247, 1, none⟩ = some (.int .i64 0) := (blk_cell BK247.out 1).trans rfl; have hcz117_2 : w116.cell? ⟨gb247, 2, none⟩ = some (.int .i64 0) := (blk_cell BK247.out 2).trans rfl; have hfz117_0 := blk_frozen BK247.out 0; have hfz117_1 := blk_frozen BK247.out 1; have hfz117_2 := blk_frozen BK247.out 2))
              repeat (go_quiet (first | (go_at_call 13; (with_reducible refine (palingslaw02_place.calls k1 x3_1 (x3_1.size : Int) t236 t237 _ A109.out).mono ?_); rintro e w113 ⟨rfl, hb⟩; have n0_ := Aside0.mk (Kd.R_below (by (with_reducible repeat (first | apply Kd.R_alloc | apply Kd.R_drewN | apply Kd.R_drew)); exact HO_4.out) hb); have n1_ := Aside0.mk (below_step (by repeat (first | (with_reducible first | exact HB.out | apply below_alloc | apply pw_below_drewN | apply below_drew1) | exact HB.out)) hb); clear HO_4; clear HB; have HO_4 := n0_; have HB := n1_; clear n0_ n1_; (try clear hb); (try clear hb2); (try clear hk); (try clear hi)) | ((with_reducible refine gate_builtin (b := .append) (xs := #[.tmp 89, .tmp 95]) rfl ?_); (try (refine gate_guard (by rfl) ?_; dsimp only)); at_builtin; refine Kd.R_append k34 (w0 := w) w.heap.size rfl (.tmp 89) (.tmp 95) 23 34 (.agg #[(.int .i64 0), (.string ⟨#[]⟩), (.int .i64 0), (.int .i64 0), (.int .i64 0)]) 48 rfl Tryd.underlying23 info34 rfl (by decide) (by omega) u4 x4_1 (⟨0, (⟨#[]⟩ : ByteArray), 0, (⟨t236, t237⟩ : S26)⟩ : S34) [.int .i64 0, .string (⟨#[]⟩ : ByteArray), .int .i64 0, .int .i64 t236, .int .i64 t237] (fun _ => True) (fun _ => False) rfl rfl ?aP (fun _ hk => hk.elim) ?aF ?aO ?aB ?aS ?aL ?_; (case aP => exact k34_mkM _ _ _ (⟨0, (⟨#[]⟩ : ByteArray), 0, (⟨t236, t237⟩ : S26)⟩ : S34)); (case aB => exact (by repeat (first | (with_reducible first | exact HB.out | apply below_alloc | apply pw_below_drewN | apply below_drew1) | exact HB.out))); (case aF => exact (fun _ _ => trivial)); (case aO => exact (by (with_reducible repeat (first | apply Kd.R_alloc | apply Kd.R_drewN | apply Kd.R_drew)); exact HO_4.out)); (case aS => exact (below_size (by repeat (first | (with_reducible first | exact HB.out | apply below_alloc | apply pw_below_drewN | apply below_drew1) | exact HB.out)))); (case aL => have := LMc110.out; omega); intro v239 w114 ho hb hg hat; rw [← Ny238.out] at ho; have n0_ := Aside0.mk (hb); have n1_ := Aside0.mk (ho); clear HB; clear HO_4; have HB := n0_; have HO240 := n1_; clear n0_ n1_; clear ho hb hg hat) | (go_at_call 10; (with_reducible refine (lex_All.calls k1 x3_1 t241 t244 t245 t246 _ ?sideG A111.out).mono ?_); (case sideG => exact GL.out.below (by repeat (first | (with_reducible first | exact HB.out | apply below_alloc | apply pw_below_drewN | apply below_drew1) | exact HB.out))); rintro e w115 ⟨v242, rfl, ho0, hb⟩; have n0_ := Aside0.mk (Kd.R_elder' (by (with_reducible repeat (first | apply Kd.R_alloc | apply Kd.R_drewN | apply Kd.R_drew)); exact HO240.out) (Kd.R_base ho0) hb); have n1_ := Aside0.mk (Kd.R_lower (Kd.R_new' ho0 (Kd.R_lt (by (with_reducible repeat (first | apply Kd.R_alloc | apply Kd.R_drewN | apply Kd.R_drew)); exact HO240.out))) (below_size (by repeat (first | (with_reducible first | exact HB.out | apply below_alloc | apply pw_below_drewN | apply below_drew1) | exact HB.out)))); have n2_ := Aside0.mk (below_step (by repeat (first | (with_reducible first | exact HB.out | apply below_alloc | apply pw_below_drewN | apply below_drew1) | exact HB.out)) hb); clear HO240; clear HB; have HO240 := n0_; have HO243 := n1_; have HB := n2_; clear n0_ n1_ n2_; (try clear hb); (try clear hb2); (try clear hk); (try clear hi); (try clear ho0)) | ((with_reducible refine gate_dst (N := 11) rfl ?_); (try (refine gate_guard (by rfl) ?_; dsimp only)); refine box_event ?hg (N := 11) ?hd (cs := #[.int .i64 0, .int .i64 0, .int .i64 0]) (t := 28) ?hr ?_; (case hd => rfl); (case hg => rfl); (case hr => first | (go_simp; done) | (go_simp; rfl)); intro gb247 hg w116 hbox hb; have n0_ := Aside0.mk (Kd.R_below (by (with_reducible repeat (first | apply Kd.R_alloc | apply Kd.R_drewN | apply Kd.R_drew)); exact HO240.out) hb); have n1_ := Aside0.mk (Kd.R_below (by (with_reducible repeat (first | apply Kd.R_alloc | apply Kd.R_drewN | apply Kd.R_drew)); exact HO243.out) hb); have n2_ := Aside0.mk (below_step (by repeat (first | (with_reducible first | exact HB.out | apply below_alloc | apply pw_below_drewN | apply below_drew1) | exact HB.out)) hb); have n3_ := Aside0.mk (hbox); have n4_ := Aside0.mk ((by rw [hg]; exact (below_size (by repeat (first | (with_reducible first | exact HB.out | apply below_alloc | apply pw_below_drewN | apply below_drew1) | exact HB.out))) : w.heap.size ≤ gb247)); have n5_ := Aside0.mk ((by rw [hg]; exact (below_size (by repeat (first | (with_reducible first | exact HB.out | apply below_alloc | apply pw_below_drewN | apply below_drew1) | exact HB.out))) : w.heap.size ≤ gb247)); clear HO240; clear HO243; clear HB; have HO240 := n0_; have HO243 := n1_; have HB := n2_; have BK247 := n3_; have GW247 := n4_; have GE247 := n5_; clear n0_ n1_ n2_ n3_ n4_ n5_; clear hb hbox hg; have hcz117_0 : w116.cell? ⟨gb247, 0, none⟩ = some (.int .i64 0) := (blk_cell BK247.out 0).trans rfl; have hcz117_1 : w116.cell? ⟨gb247, 1, none⟩ = some (.int .i64 0) := (blk_cell BK247.out 1).trans rfl; have hcz117_2 : w116.cell? ⟨gb247, 2, none⟩ = some (.int .i64 0) := (blk_cell BK247.out 2).trans rfl; have hfz117_0 := blk_frozen BK247.out 0; have hfz117_1 := blk_frozen BK247.out 1; have hfz117_2 := blk_frozen BK247.out 2)); go_upto_region 34 with (first | (go_at_call 13; (with_reducible refine (palingslaw02_place.calls k1 x3_1 (x3_1.size : Int) t236 t237 _ A109.out).mono ?_); rintro e w113 ⟨rfl, hb⟩; have n0_ := Aside0.mk (Kd.R_below (by (with_reducible repeat (first | apply Kd.R_alloc | apply Kd.R_drewN | apply Kd.R_drew)); exact HO_4.out) hb); have n1_ := Aside0.mk (below_step (by repeat (first | (with_reducible first | exact HB.out | apply below_alloc | apply pw_below_drewN | apply below_drew1) | exact HB.out)) hb); clear HO_4; clear HB; have HO_4 := n0_; have HB := n1_; clear n0_ n1_; (try clear hb); (try clear hb2); (try clear hk); (try clear hi)) | ((with_reducible refine gate_builtin (b := .append) (xs := #[.tmp 89, .tmp 95]) rfl ?_); (try (refine gate_guard (by rfl) ?_; dsimp only)); at_builtin; refine Kd.R_append k34 (w0 := w) w.heap.size rfl (.tmp 89) (.tmp 95) 23 34 (.agg #[(.int .i64 0), (.string ⟨#[]⟩), (.int .i64 0), (.int .i64 0), (.int .i64 0)]) 48 rfl Tryd.underlying23 info34 rfl (by decide) (by omega) u4 x4_1 (⟨0, (⟨#[]⟩ : ByteArray), 0, (⟨t236, t237⟩ : S26)⟩ : S34) [.int .i64 0, .string (⟨#[]⟩ : ByteArray), .int .i64 0, .int .i64 t236, .int .i64 t237] (fun _ => True) (fun _ => False) rfl rfl ?aP (fun _ hk => hk.elim) ?aF ?aO ?aB ?aS ?aL ?_; (case aP => exact k34_mkM _ _ _ (⟨0, (⟨#[]⟩ : ByteArray), 0, (⟨t236, t237⟩ : S26)⟩ : S34)); (case aB => exact (by repeat (first | (with_reducible first | exact HB.out | apply below_alloc | apply pw_below_drewN | apply below_drew1) | exact HB.out))); (case aF => exact (fun _ _ => trivial)); (case aO => exact (by (with_reducible repeat (first | apply Kd.R_alloc | apply Kd.R_drewN | apply Kd.R_drew)); exact HO_4.out)); (case aS => exact (below_size (by repeat (first | (with_reducible first | exact HB.out | apply below_alloc | apply pw_below_drewN | apply below_drew1) | exact HB.out)))); (case aL => have := LMc110.out; omega); intro v239 w114 ho hb hg hat; rw [← Ny238.out] at ho; have n0_ := Aside0.mk (hb); have n1_ := Aside0.mk (ho); clear HB; clear HO_4; have HB := n0_; have HO240 := n1_; clear n0_ n1_; clear ho hb hg hat) | (go_at_call 10; (with_reducible refine (lex_All.calls k1 x3_1 t241 t244 t245 t246 _ ?sideG A111.out).mono ?_); (case sideG => exact GL.out.below (by repeat (first | (with_reducible first | exact HB.out | apply below_alloc | apply pw_below_drewN | apply below_drew1) | exact HB.out))); rintro e w115 ⟨v242, rfl, ho0, hb⟩; have n0_ := Aside0.mk (Kd.R_elder' (by (with_reducible repeat (first | apply Kd.R_alloc | apply Kd.R_drewN | apply Kd.R_drew)); exact HO240.out) (Kd.R_base ho0) hb); have n1_ := Aside0.mk (Kd.R_lower (Kd.R_new' ho0 (Kd.R_lt (by (with_reducible repeat (first | apply Kd.R_alloc | apply Kd.R_drewN | apply Kd.R_drew)); exact HO240.out))) (below_size (by repeat (first | (with_reducible first | exact HB.out | apply below_alloc | apply pw_below_drewN | apply below_drew1) | exact HB.out)))); have n2_ := Aside0.mk (below_step (by repeat (first | (with_reducible first | exact HB.out | apply below_alloc | apply pw_below_drewN | apply below_drew1) | exact HB.out)) hb); clear HO240; clear HB; have HO240 := n0_; have HO243 := n1_; have HB := n2_; clear n0_ n1_ n2_; (try clear hb); (try clear hb2); (try clear hk); (try clear hi); (try clear ho0)) | ((with_reducible refine gate_dst (N := 11) rfl ?_); (try (refine gate_guard (by rfl) ?_; dsimp only)); refine box_event ?hg (N := 11) ?hd (cs := #[.int .i64 0, .int .i64 0, .int .i64 0]) (t := 28) ?hr ?_; (case hd => rfl); (case hg => rfl); (case hr => first | (go_simp; done) | (go_simp; rfl)); intro gb247 hg w116 hbox hb; have n0_ := Aside0.mk (Kd.R_below (by (with_reducible repeat (first | apply Kd.R_alloc | apply Kd.R_drewN | apply Kd.R_drew)); exact HO240.out) hb); have n1_ := Aside0.mk (Kd.R_below (by (with_reducible repeat (first | apply Kd.R_alloc | apply Kd.R_drewN | apply Kd.R_drew)); exact HO243.out) hb); have n2_ := Aside0.mk (below_step (by repeat (first | (with_reducible first | exact HB.out | apply below_alloc | apply pw_below_drewN | apply below_drew1) | exact HB.out)) hb); have n3_ := Aside0.mk (hbox); have n4_ := Aside0.mk ((by rw [hg]; exact (below_size (by repeat (first | (with_reducible first | exact HB.out | apply below_alloc | apply pw_below_drewN | apply below_drew1) | exact HB.out))) : w.heap.size ≤ gb247)); have n5_ := Aside0.mk ((by rw [hg]; exact (below_size (by repeat (first | (with_reducible first | exact HB.out | apply below_alloc | apply pw_below_drewN | apply below_drew1) | exact HB.out))) : w.heap.size ≤ gb247)); clear HO240; clear HO243; clear HB; have HO240 := n0_; have HO243 := n1_; have HB := n2_; have BK247 := n3_; have GW247 := n4_; have GE247 := n5_; clear n0_ n1_ n2_ n3_ n4_ n5_; clear hb hbox hg; have hcz117_0 : w116.cell? ⟨gb247, 0, none⟩ = some (.int .i64 0) := (blk_cell BK247.out 0).trans rfl; have hcz117_1 : w116.cell? ⟨gb247, 1, none⟩ = some (.int .i64 0) := (blk_cell BK247.out 1).trans rfl; have hcz117_2 : w116.cell? ⟨gb247, 2, none⟩ = some (.int .i64 0) := (blk_cell BK247.out 2).trans rfl; have hfz117_0 := blk_frozen BK247.out 0; have hfz117_1 := blk_frozen BK247.out 1; have hfz117_2 := blk_frozen BK247.out 2)))
              (try simp only [Act.put, List.setIfInBounds_toArray, List.set_cons_zero, List.set_cons_succ])
              go_cut [111] (fun v111 wc => ∃ (kq : Nat) (x111_111 : Bool), v111 = .bool x111_111 ∧ Aside0 (palingslaw02_LexPieces.j1 kq y238 t241 x111_111 = some r) ∧ Aside0 (kq ≤ k1) ∧ Aside0 (Kd.R k34 34 wc w.heap.size (fun k_ => some k_ ≠ (v242 : Value).ownBlock) v239 y238) ∧ Aside0 (Kd.R k34 34 wc w.heap.size (fun k_ => some k_ ≠ (v239 : Value).ownBlock) v242 t241) ∧ Aside0 (wc.heap[gb247]? = some (.cells #[.int .i64 t244, .int .i64 t245, .int .i64 t246] 28 (0, 0))) ∧ Aside0 (Below w.heap.size w wc))
              case first =>
                have H := HC112.out
                clear HC112
                by_cases c118 : (!(t244 == 0) || ((!(t245 == 0) || (!(t246 == 0))))) = true
                · rw [if_pos c118] at H
                  have c118b0 : (!(t244 == 0) || ((!(t245 == 0) || (!(t246 == 0))))) = true := c118
                  clear c118
                  (first | rw [c118b0] | (simp only [i64_w, i32_w]; rw [c118b0]) | skip)
                  have H' := Aside0.mk H
                  clear H
                  have hcz119_0 : w116.cell? ⟨gb247, 0, none⟩ = some (.int .i64 0) := (blk_cell BK247.out 0).trans rfl
                  have hcz119_1 : w116.cell? ⟨gb247, 1, none⟩ = some (.int .i64 0) := (blk_cell BK247.out 1).trans rfl
                  have hcz119_2 : w116.cell? ⟨gb247, 2, none⟩ = some (.int .i64 0) := (blk_cell BK247.out 2).trans rfl
                  have hfz119_0 := blk_frozen BK247.out 0
                  have hfz119_1 := blk_frozen BK247.out 1
                  have hfz119_2 := blk_frozen BK247.out 2
                  go_wp2
                  repeat (go_quiet (fail); try go_wp2)
                  go_meet
                  case rel => exact ⟨_, (true), (by first | rfl | (simp; done) | (simp [*]; done)), H', ⟨by have := HK1.out; first | omega | exact Nat.le_refl _⟩, ⟨by (with_reducible repeat (first | apply Kd.R_alloc | apply Kd.R_drewN | apply Kd.R_drew)); exact Kd.R_mono (Kd.R_far (p := ⟨gb247, 2, none⟩) (Kd.R_far (p := ⟨gb247, 1, none⟩) (Kd.R_far (p := ⟨gb247, 0, none⟩) (Kd.R_types HO240.out BK247.out (by decide)) (fun _ hk => hk.2) (.int .i64 t244)) (fun _ hk => hk.2) (.int .i64 t245)) (fun _ hk => hk.2) (.int .i64 t246)) (fun _ hk => hk.1.2)⟩, ⟨by (with_reducible repeat (first | apply Kd.R_alloc | apply Kd.R_drewN | apply Kd.R_drew)); exact Kd.R_mono (Kd.R_far (p := ⟨gb247, 2, none⟩) (Kd.R_far (p := ⟨gb247, 1, none⟩) (Kd.R_far (p := ⟨gb247, 0, none⟩) (Kd.R_types HO243.out BK247.out (by decide)) (fun _ hk => hk.2) (.int .i64 t244)) (fun _ hk => hk.2) (.int .i64 t245)) (fun _ hk => hk.2) (.int .i64 t246)) (fun _ hk => hk.1.2)⟩, ⟨by (with_reducible repeat (first | refine blk_drewN ?_ _ | refine blk_drew ?_ | refine blk_alloc ?_ _)); refine blk_put (cs := #[.int .i64 t244, .int .i64 t245, .int .i64 0]) ?_ 2 _ rfl; (with_reducible repeat (first | refine blk_drewN ?_ _ | refine blk_drew ?_ | refine blk_alloc ?_ _)); refine blk_put (cs := #[.int .i64 t244, .int .i64 0, .int .i64 0]) ?_ 1 _ rfl; (with_reducible repeat (first | refine blk_drewN ?_ _ | refine blk_drew ?_ | refine blk_alloc ?_ _)); refine blk_put (cs := #[.int .i64 0, .int .i64 0, .int .i64 0]) ?_ 0 _ rfl; (with_reducible repeat (first | refine blk_drewN ?_ _ | refine blk_drew ?_ | refine blk_alloc ?_ _)); exact BK247.out⟩, ⟨by repeat (first | (with_reducible first | exact HB.out | apply below_alloc | apply pw_below_drewN | apply below_drew1 | refine below_set ?_ GE247.out) | exact HB.out)⟩⟩
                · rw [if_neg c118] at H
                  have c118b0 : (!(t244 == 0) || ((!(t245 == 0) || (!(t246 == 0))))) = false := by simpa using c118
                  clear c118
                  (first | rw [c118b0] | (simp only [i64_w, i32_w]; rw [c118b0]) | skip)
                  have H' := Aside0.mk H
                  clear H
                  have hcz120_0 : w116.cell? ⟨gb247, 0, none⟩ = some (.int .i64 0) := (blk_cell BK247.out 0).trans rfl
                  have hcz120_1 : w116.cell? ⟨gb247, 1, none⟩ = some (.int .i64 0) := (blk_cell BK247.out 1).trans rfl
                  have hcz120_2 : w116.cell? ⟨gb247, 2, none⟩ = some (.int .i64 0) := (blk_cell BK247.out 2).trans rfl
                  have hfz120_0 := blk_frozen BK247.out 0
                  have hfz120_1 := blk_frozen BK247.out 1
                  have hfz120_2 := blk_frozen BK247.out 2
                  obtain ⟨Ao121, co121, eo121⟩ := Kd.R_slice HO243.out
                  subst eo121
                  obtain ⟨Ao122, co122, eo122⟩ := Kd.R_slice HO240.out
                  subst eo122
                  go_wp2
                  repeat (go_quiet (fail); try go_wp2)
                  go_meet
                  case rel => exact ⟨_, (((t241.length : Int) != (y238.length : Int))), (by first | rfl | (simp; done) | (simp [*]; done)), H', ⟨by have := HK1.out; first | omega | exact Nat.le_refl _⟩, ⟨by (with_reducible repeat (first | apply Kd.R_alloc | apply Kd.R_drewN | apply Kd.R_drew)); exact Kd.R_mono (Kd.R_far (p := ⟨gb247, 2, none⟩) (Kd.R_far (p := ⟨gb247, 1, none⟩) (Kd.R_far (p := ⟨gb247, 0, none⟩) (Kd.R_types HO240.out BK247.out (by decide)) (fun _ hk => hk.2) (.int .i64 t244)) (fun _ hk => hk.2) (.int .i64 t245)) (fun _ hk => hk.2) (.int .i64 t246)) (fun _ hk => hk.1.2)⟩, ⟨by (with_reducible repeat (first | apply Kd.R_alloc | apply Kd.R_drewN | apply Kd.R_drew)); exact Kd.R_mono (Kd.R_far (p := ⟨gb247, 2, none⟩) (Kd.R_far (p := ⟨gb247, 1, none⟩) (Kd.R_far (p := ⟨gb247, 0, none⟩) (Kd.R_types HO243.out BK247.out (by decide)) (fun _ hk => hk.2) (.int .i64 t244)) (fun _ hk => hk.2) (.int .i64 t245)) (fun _ hk => hk.2) (.int .i64 t246)) (fun _ hk => hk.1.2)⟩, ⟨by (with_reducible repeat (first | refine blk_drewN ?_ _ | refine blk_drew ?_ | refine blk_alloc ?_ _)); refine blk_put (cs := #[.int .i64 t244, .int .i64 t245, .int .i64 0]) ?_ 2 _ rfl; (with_reducible repeat (first | refine blk_drewN ?_ _ | refine blk_drew ?_ | refine blk_alloc ?_ _)); refine blk_put (cs := #[.int .i64 t244, .int .i64 0, .int .i64 0]) ?_ 1 _ rfl; (with_reducible repeat (first | refine blk_drewN ?_ _ | refine blk_drew ?_ | refine blk_alloc ?_ _)); refine blk_put (cs := #[.int .i64 0, .int .i64 0, .int .i64 0]) ?_ 0 _ rfl; (with_reducible repeat (first | refine blk_drewN ?_ _ | refine blk_drew ?_ | refine blk_alloc ?_ _)); exact BK247.out⟩, ⟨by repeat (first | (with_reducible first | exact HB.out | apply below_alloc | apply pw_below_drewN | apply below_drew1 | refine below_set ?_ GE247.out) | exact HB.out)⟩⟩
              case rest =>
                clear HC112
                try clear c1
                try clear p1
                try clear q1
                try clear hx1
                try clear c2
                try clear p2
                try clear q2
                try clear hx2
                try clear c3
                try clear c4
                try clear c4b0
                try clear c4b1
                try clear c5
                try clear c6
                try clear p6
                try clear c7
                try clear c8
                try clear c9
                try clear c9b0
                try clear c10
                try clear c10b0
                try clear c11
                try clear c11b0
                try clear c12
                try clear c12b0
                try clear c12b1
                try clear c14
                try clear c14b0
                try clear c14b1
                try clear c14b2
                try clear c15
                try clear c15b0
                try clear c15b1
                try clear c15b2
                try clear c17
                try clear c17b0
                try clear c18
                try clear c18b0
                try clear c19
                try clear c19b0
                try clear c19b1
                try clear c19b2
                try clear p19
                try clear q19
                try clear hx19
                try clear p20
                try clear q20
                try clear hx20
                try clear c21
                try clear c21b0
                try clear c21b1
                try clear c21b2
                try clear p21
                try clear q21
                try clear hx21
                try clear c22
                try clear p22
                try clear q22
                try clear hx22
                try clear p23
                try clear q23
                try clear hx23
                try clear c26
                try clear c39
                try clear c39b0
                try clear c39b1
                try clear c42
                try clear c42b0
                try clear c43
                try clear c43b0
                try clear c44
                try clear c44b0
                try clear c44b1
                try clear c44b2
                try clear c46
                try clear c46b0
                try clear c46b1
                try clear c46b2
                try clear c47
                try clear c51
                try clear c64
                try clear c64b0
                try clear c64b1
                try clear p64
                try clear c67
                try clear c67b0
                try clear c68
                try clear c68b0
                try clear c69
                try clear c69b0
                try clear c69b1
                try clear c69b2
                try clear c71
                try clear c71b0
                try clear c71b1
                try clear c71b2
                try clear c72
                try clear c76
                try clear c89
                try clear c89b0
                try clear c90
                try clear c90b0
                try clear c91
                try clear c91b0
                try clear c91b1
                try clear c91b2
                try clear c93
                try clear c93b0
                try clear c93b1
                try clear c93b2
                try clear c94
                try clear c98
                try clear c110
                try clear c118
                try clear c118b0
                try clear hcz100_0
                try clear hcz100_1
                try clear hcz100_2
                try clear hcz103_0
                try clear hcz103_1
                try clear hcz103_2
                try clear hcz105_0
                try clear hcz105_1
                try clear hcz105_2
                try clear hcz105_3
                try clear hcz105_4
                try clear hcz107_0
                try clear hcz107_1
                try clear hcz107_2
                try clear hcz107_3
                try clear hcz107_4
                try clear hcz117_0
                try clear hcz117_1
                try clear hcz117_2
                try clear hcz119_0
                try clear hcz119_1
                try clear hcz119_2
                try clear hcz120_0
                try clear hcz120_1
                try clear hcz120_2
                try clear hcz24_0
                try clear hcz24_1
                try clear hcz24_2
                try clear hcz27_0
                try clear hcz27_1
                try clear hcz27_2
                try clear hcz27_3
                try clear hcz27_4
                try clear hcz28_0
                try clear hcz28_1
                try clear hcz28_2
                try clear hcz30_0
                try clear hcz30_1
                try clear hcz30_2
                try clear hcz30_3
                try clear hcz30_4
                try clear hcz33_0
                try clear hcz33_1
                try clear hcz33_2
                try clear hcz35_0
                try clear hcz35_1
                try clear hcz35_2
                try clear hcz35_3
                try clear hcz35_4
                try clear hcz37_0
                try clear hcz37_1
                try clear hcz37_2
                try clear hcz37_3
                try clear hcz37_4
                try clear hcz49_0
                try clear hcz49_1
                try clear hcz49_2
                try clear hcz52_0
                try clear hcz52_1
                try clear hcz52_2
                try clear hcz52_3
                try clear hcz52_4
                try clear hcz53_0
                try clear hcz53_1
                try clear hcz53_2
                try clear hcz55_0
                try clear hcz55_1
                try clear hcz55_2
                try clear hcz55_3
                try clear hcz55_4
                try clear hcz58_0
                try clear hcz58_1
                try clear hcz58_2
                try clear hcz60_0
                try clear hcz60_1
                try clear hcz60_2
                try clear hcz60_3
                try clear hcz60_4
                try clear hcz62_0
                try clear hcz62_1
                try clear hcz62_2
                try clear hcz62_3
                try clear hcz62_4
                try clear hcz74_0
                try clear hcz74_1
                try clear hcz74_2
                try clear hcz77_0
                try clear hcz77_1
                try clear hcz77_2
                try clear hcz77_3
                try clear hcz77_4
                try clear hcz78_0
                try clear hcz78_1
                try clear hcz78_2
                try clear hcz81_0
                try clear hcz81_1
                try clear hcz81_2
                try clear hcz83_0
                try clear hcz83_1
                try clear hcz83_2
                try clear hcz83_3
                try clear hcz83_4
                try clear hcz85_0
                try clear hcz85_1
                try clear hcz85_2
                try clear hcz85_3
                try clear hcz85_4
                try clear hcz96_0
                try clear hcz96_1
                try clear hcz96_2
                try clear hcz99_0
                try clear hcz99_1
                try clear hcz99_2
                try clear hcz99_3
                try clear hcz99_4
                try clear hfz100_0
                try clear hfz100_1
                try clear hfz100_2
                try clear hfz103_0
                try clear hfz103_1
                try clear hfz103_2
                try clear hfz105_0
                try clear hfz105_1
                try clear hfz105_2
                try clear hfz105_3
                try clear hfz105_4
                try clear hfz107_0
                try clear hfz107_1
                try clear hfz107_2
                try clear hfz107_3
                try clear hfz107_4
                try clear hfz117_0
                try clear hfz117_1
                try clear hfz117_2
                try clear hfz119_0
                try clear hfz119_1
                try clear hfz119_2
                try clear hfz120_0
                try clear hfz120_1
                try clear hfz120_2
                try clear hfz24_0
                try clear hfz24_1
                try clear hfz24_2
                try clear hfz27_0
                try clear hfz27_1
                try clear hfz27_2
                try clear hfz27_3
                try clear hfz27_4
                try clear hfz28_0
                try clear hfz28_1
                try clear hfz28_2
                try clear hfz30_0
                try clear hfz30_1
                try clear hfz30_2
                try clear hfz30_3
                try clear hfz30_4
                try clear hfz33_0
                try clear hfz33_1
                try clear hfz33_2
                try clear hfz35_0
                try clear hfz35_1
                try clear hfz35_2
                try clear hfz35_3
                try clear hfz35_4
                try clear hfz37_0
                try clear hfz37_1
                try clear hfz37_2
                try clear hfz37_3
                try clear hfz37_4
                try clear hfz49_0
                try clear hfz49_1
                try clear hfz49_2
                try clear hfz52_0
                try clear hfz52_1
                try clear hfz52_2
                try clear hfz52_3
                try clear hfz52_4
                try clear hfz53_0
                try clear hfz53_1
                try clear hfz53_2
                try clear hfz55_0
                try clear hfz55_1
                try clear hfz55_2
                try clear hfz55_3
                try clear hfz55_4
                try clear hfz58_0
                try clear hfz58_1
                try clear hfz58_2
                try clear hfz60_0
                try clear hfz60_1
                try clear hfz60_2
                try clear hfz60_3
                try clear hfz60_4
                try clear hfz62_0
                try clear hfz62_1
                try clear hfz62_2
                try clear hfz62_3
                try clear hfz62_4
                try clear hfz74_0
                try clear hfz74_1
                try clear hfz74_2
                try clear hfz77_0
                try clear hfz77_1
                try clear hfz77_2
                try clear hfz77_3
                try clear hfz77_4
                try clear hfz78_0
                try clear hfz78_1
                try clear hfz78_2
                try clear hfz81_0
                try clear hfz81_1
                try clear hfz81_2
                try clear hfz83_0
                try clear hfz83_1
                try clear hfz83_2
                try clear hfz83_3
                try clear hfz83_4
                try clear hfz85_0
                try clear hfz85_1
                try clear hfz85_2
                try clear hfz85_3
                try clear hfz85_4
                try clear hfz96_0
                try clear hfz96_1
                try clear hfz96_2
                try clear hfz99_0
                try clear hfz99_1
                try clear hfz99_2
                try clear hfz99_3
                try clear hfz99_4
                try clear hx193_0
                try clear hx193_1
                try clear hx193_2
                try clear hx200_0
                try clear hx210_0
                try clear hx220_0
                try clear hx230_0
                try clear p193
                try clear p2
                try clear p200
                try clear p210
                try clear p220
                try clear p230
                try clear q193
                try clear q200
                try clear q210
                try clear q220
                try clear q230
                obtain ⟨kq, x111_111, rfl, HA, HJ111, HO_4, HO_10, BK247, HB⟩ := hcut
                cases kq with
                | zero => exact absurd HA.out (by simp [palingslaw02_LexPieces.j1])
                | succ kj111 =>
                  have H := HA.out
                  clear HA
                  simp only [palingslaw02_LexPieces.j1] at H
                  by_cases c123 : x111_111 = true
                  · subst c123
                    have H1 : (some false) = some r := by rw [if_pos rfl] at H; exact H
                    clear H
                    have H := H1
                    clear H1
                    obtain rfl := Option.some.inj H
                    go_wp2
                    repeat (go_quiet (fail); try go_wp2)
                    go_ret
                    exact ⟨by first | rfl | (simp [errW_none, errW_some] <;> rfl) | (simp [*, errW_none, errW_some] <;> rfl), by repeat (first | (with_reducible first | exact HB.out | apply below_alloc | apply pw_below_drewN | apply below_drew1 | refine below_set ?_ GE247.out) | exact HB.out)⟩
                  · replace c123 := Bool.eq_false_iff.mpr c123
                    subst c123
                    have H1 : (palingslaw02_LexPieces.l1 kj111 y238 t241 (t241.length : Int) 0) = some r := by rw [if_neg (show ¬ (false = true) by decide)] at H; exact H
                    clear H
                    have H := H1
                    clear H1
                    have H' := Aside0.mk H
                    clear H
                    obtain ⟨Ao124, co124, eo124⟩ := Kd.R_slice HO_10.out
                    subst eo124
                    go_wp2
                    repeat (go_quiet (fail); try go_wp2)
                    go_loopg [114] kj111 (fun kq v114 w' => ∃ (x114_3 : Int), v114 = .int .i64 x114_3 ∧ Aside0 (palingslaw02_LexPieces.l1 kq y238 t241 (t241.length : Int) x114_3 = some r) ∧ Aside0 (kq ≤ kj111) ∧ Aside0 (Kd.R k34 34 w' w.heap.size (fun k_ => some k_ ≠ ((.slice Ao124 t241.length co124) : Value).ownBlock) v239 y238) ∧ Aside0 (Kd.R k34 34 w' w.heap.size (fun k_ => some k_ ≠ (v239 : Value).ownBlock) (.slice Ao124 t241.length co124) t241) ∧ Aside0 (w'.heap[gb247]? = some (.cells #[.int .i64 t244, .int .i64 t245, .int .i64 t246] 28 (0, 0))) ∧ Aside0 (Below w.heap.size w w'))
                    case atStart => exact ⟨(0), (by first | rfl | (simp; done) | (simp [*]; done)), H', ⟨Nat.le_refl _⟩, ⟨by (with_reducible repeat (first | apply Kd.R_alloc | apply Kd.R_drewN | apply Kd.R_drew)); exact HO_4.out⟩, ⟨by (with_reducible repeat (first | apply Kd.R_alloc | apply Kd.R_drewN | apply Kd.R_drew)); exact HO_10.out⟩, ⟨by (with_reducible repeat (first | refine blk_drewN ?_ _ | refine blk_drew ?_ | refine blk_alloc ?_ _)); exact BK247.out⟩, ⟨by repeat (first | (with_reducible first | exact HB.out | apply below_alloc | apply pw_below_drewN | apply below_drew1 | refine below_set ?_ GE247.out) | exact HB.out)⟩⟩
                    case round =>
                      clear H'
                      try clear c1
                      try clear p1
                      try clear q1
                      try clear hx1
                      try clear c2
                      try clear p2
                      try clear q2
                      try clear hx2
                      try clear c3
                      try clear c4
                      try clear c4b0
                      try clear c4b1
                      try clear c5
                      try clear c6
                      try clear p6
                      try clear c7
                      try clear c8
                      try clear c9
                      try clear c9b0
                      try clear c10
                      try clear c10b0
                      try clear c11
                      try clear c11b0
                      try clear c12
                      try clear c12b0
                      try clear c12b1
                      try clear c14
                      try clear c14b0
                      try clear c14b1
                      try clear c14b2
                      try clear c15
                      try clear c15b0
                      try clear c15b1
                      try clear c15b2
                      try clear c17
                      try clear c17b0
                      try clear c18
                      try clear c18b0
                      try clear c19
                      try clear c19b0
                      try clear c19b1
                      try clear c19b2
                      try clear p19
                      try clear q19
                      try clear hx19
                      try clear p20
                      try clear q20
                      try clear hx20
                      try clear c21
                      try clear c21b0
                      try clear c21b1
                      try clear c21b2
                      try clear p21
                      try clear q21
                      try clear hx21
                      try clear c22
                      try clear p22
                      try clear q22
                      try clear hx22
                      try clear p23
                      try clear q23
                      try clear hx23
                      try clear c26
                      try clear c39
                      try clear c39b0
                      try clear c39b1
                      try clear c42
                      try clear c42b0
                      try clear c43
                      try clear c43b0
                      try clear c44
                      try clear c44b0
                      try clear c44b1
                      try clear c44b2
                      try clear c46
                      try clear c46b0
                      try clear c46b1
                      try clear c46b2
                      try clear c47
                      try clear c51
                      try clear c64
                      try clear c64b0
                      try clear c64b1
                      try clear p64
                      try clear c67
                      try clear c67b0
                      try clear c68
                      try clear c68b0
                      try clear c69
                      try clear c69b0
                      try clear c69b1
                      try clear c69b2
                      try clear c71
                      try clear c71b0
                      try clear c71b1
                      try clear c71b2
                      try clear c72
                      try clear c76
                      try clear c89
                      try clear c89b0
                      try clear c90
                      try clear c90b0
                      try clear c91
                      try clear c91b0
                      try clear c91b1
                      try clear c91b2
                      try clear c93
                      try clear c93b0
                      try clear c93b1
                      try clear c93b2
                      try clear c94
                      try clear c98
                      try clear c110
                      try clear c118
                      try clear c118b0
                      try clear c123
                      try clear hcz100_0
                      try clear hcz100_1
                      try clear hcz100_2
                      try clear hcz103_0
                      try clear hcz103_1
                      try clear hcz103_2
                      try clear hcz105_0
                      try clear hcz105_1
                      try clear hcz105_2
                      try clear hcz105_3
                      try clear hcz105_4
                      try clear hcz107_0
                      try clear hcz107_1
                      try clear hcz107_2
                      try clear hcz107_3
                      try clear hcz107_4
                      try clear hcz117_0
                      try clear hcz117_1
                      try clear hcz117_2
                      try clear hcz119_0
                      try clear hcz119_1
                      try clear hcz119_2
                      try clear hcz120_0
                      try clear hcz120_1
                      try clear hcz120_2
                      try clear hcz24_0
                      try clear hcz24_1
                      try clear hcz24_2
                      try clear hcz27_0
                      try clear hcz27_1
                      try clear hcz27_2
                      try clear hcz27_3
                      try clear hcz27_4
                      try clear hcz28_0
                      try clear hcz28_1
                      try clear hcz28_2
                      try clear hcz30_0
                      try clear hcz30_1
                      try clear hcz30_2
                      try clear hcz30_3
                      try clear hcz30_4
                      try clear hcz33_0
                      try clear hcz33_1
                      try clear hcz33_2
                      try clear hcz35_0
                      try clear hcz35_1
                      try clear hcz35_2
                      try clear hcz35_3
                      try clear hcz35_4
                      try clear hcz37_0
                      try clear hcz37_1
                      try clear hcz37_2
                      try clear hcz37_3
                      try clear hcz37_4
                      try clear hcz49_0
                      try clear hcz49_1
                      try clear hcz49_2
                      try clear hcz52_0
                      try clear hcz52_1
                      try clear hcz52_2
                      try clear hcz52_3
                      try clear hcz52_4
                      try clear hcz53_0
                      try clear hcz53_1
                      try clear hcz53_2
                      try clear hcz55_0
                      try clear hcz55_1
                      try clear hcz55_2
                      try clear hcz55_3
                      try clear hcz55_4
                      try clear hcz58_0
                      try clear hcz58_1
                      try clear hcz58_2
                      try clear hcz60_0
                      try clear hcz60_1
                      try clear hcz60_2
                      try clear hcz60_3
                      try clear hcz60_4
                      try clear hcz62_0
                      try clear hcz62_1
                      try clear hcz62_2
                      try clear hcz62_3
                      try clear hcz62_4
                      try clear hcz74_0
                      try clear hcz74_1
                      try clear hcz74_2
                      try clear hcz77_0
                      try clear hcz77_1
                      try clear hcz77_2
                      try clear hcz77_3
                      try clear hcz77_4
                      try clear hcz78_0
                      try clear hcz78_1
                      try clear hcz78_2
                      try clear hcz81_0
                      try clear hcz81_1
                      try clear hcz81_2
                      try clear hcz83_0
                      try clear hcz83_1
                      try clear hcz83_2
                      try clear hcz83_3
                      try clear hcz83_4
                      try clear hcz85_0
                      try clear hcz85_1
                      try clear hcz85_2
                      try clear hcz85_3
                      try clear hcz85_4
                      try clear hcz96_0
                      try clear hcz96_1
                      try clear hcz96_2
                      try clear hcz99_0
                      try clear hcz99_1
                      try clear hcz99_2
                      try clear hcz99_3
                      try clear hcz99_4
                      try clear hfz100_0
                      try clear hfz100_1
                      try clear hfz100_2
                      try clear hfz103_0
                      try clear hfz103_1
                      try clear hfz103_2
                      try clear hfz105_0
                      try clear hfz105_1
                      try clear hfz105_2
                      try clear hfz105_3
                      try clear hfz105_4
                      try clear hfz107_0
                      try clear hfz107_1
                      try clear hfz107_2
                      try clear hfz107_3
                      try clear hfz107_4
                      try clear hfz117_0
                      try clear hfz117_1
                      try clear hfz117_2
                      try clear hfz119_0
                      try clear hfz119_1
                      try clear hfz119_2
                      try clear hfz120_0
                      try clear hfz120_1
                      try clear hfz120_2
                      try clear hfz24_0
                      try clear hfz24_1
                      try clear hfz24_2
                      try clear hfz27_0
                      try clear hfz27_1
                      try clear hfz27_2
                      try clear hfz27_3
                      try clear hfz27_4
                      try clear hfz28_0
                      try clear hfz28_1
                      try clear hfz28_2
                      try clear hfz30_0
                      try clear hfz30_1
                      try clear hfz30_2
                      try clear hfz30_3
                      try clear hfz30_4
                      try clear hfz33_0
                      try clear hfz33_1
                      try clear hfz33_2
                      try clear hfz35_0
                      try clear hfz35_1
                      try clear hfz35_2
                      try clear hfz35_3
                      try clear hfz35_4
                      try clear hfz37_0
                      try clear hfz37_1
                      try clear hfz37_2
                      try clear hfz37_3
                      try clear hfz37_4
                      try clear hfz49_0
                      try clear hfz49_1
                      try clear hfz49_2
                      try clear hfz52_0
                      try clear hfz52_1
                      try clear hfz52_2
                      try clear hfz52_3
                      try clear hfz52_4
                      try clear hfz53_0
                      try clear hfz53_1
                      try clear hfz53_2
                      try clear hfz55_0
                      try clear hfz55_1
                      try clear hfz55_2
                      try clear hfz55_3
                      try clear hfz55_4
                      try clear hfz58_0
                      try clear hfz58_1
                      try clear hfz58_2
                      try clear hfz60_0
                      try clear hfz60_1
                      try clear hfz60_2
                      try clear hfz60_3
                      try clear hfz60_4
                      try clear hfz62_0
                      try clear hfz62_1
                      try clear hfz62_2
                      try clear hfz62_3
                      try clear hfz62_4
                      try clear hfz74_0
                      try clear hfz74_1
                      try clear hfz74_2
                      try clear hfz77_0
                      try clear hfz77_1
                      try clear hfz77_2
                      try clear hfz77_3
                      try clear hfz77_4
                      try clear hfz78_0
                      try clear hfz78_1
                      try clear hfz78_2
                      try clear hfz81_0
                      try clear hfz81_1
                      try clear hfz81_2
                      try clear hfz83_0
                      try clear hfz83_1
                      try clear hfz83_2
                      try clear hfz83_3
                      try clear hfz83_4
                      try clear hfz85_0
                      try clear hfz85_1
                      try clear hfz85_2
                      try clear hfz85_3
                      try clear hfz85_4
                      try clear hfz96_0
                      try clear hfz96_1
                      try clear hfz96_2
                      try clear hfz99_0
                      try clear hfz99_1
                      try clear hfz99_2
                      try clear hfz99_3
                      try clear hfz99_4
                      try clear hx193_0
                      try clear hx193_1
                      try clear hx193_2
                      try clear hx200_0
                      try clear hx210_0
                      try clear hx220_0
                      try clear hx230_0
                      try clear p1
                      try clear p19
                      try clear p193
                      try clear p2
                      try clear p20
                      try clear p200
                      try clear p21
                      try clear p210
                      try clear p22
                      try clear p220
                      try clear p23
                      try clear p230
                      try clear p6
                      try clear p64
                      try clear q1
                      try clear q19
                      try clear q193
                      try clear q2
                      try clear q20
                      try clear q200
                      try clear q21
                      try clear q210
                      try clear q22
                      try clear q220
                      try clear q23
                      try clear q230
                      obtain ⟨x114_3, rfl, HA, HK3, HO_4, HO_10, BK247, HB⟩ := hrel
                      cases gk with
                      | zero => exact absurd HA.out (by simp [palingslaw02_LexPieces.l1])
                      | succ k3 =>
                        have H := HA.out
                        clear HA
                        simp only [palingslaw02_LexPieces.l1] at H
                        by_cases c125 : x114_3 < (t241.length : Int)
                        · rw [if_pos c125] at H
                          have c125b0 : decide (x114_3 < (t241.length : Int)) = true := decide_eq_true c125
                          clear c125
                          by_cases c126 : 0 ≤ x114_3
                          · rw [if_pos c126] at H
                            have c126b0 : decide (0 ≤ x114_3) = true := decide_eq_true c126
                            clear c126
                            by_cases c127 : x114_3 < (t241.length : Int)
                            · rw [if_pos c127] at H
                              have c127b0 : decide (x114_3 < (t241.length : Int)) = true := decide_eq_true c127
                              clear c127
                              by_cases c128 : x114_3 < (y238.length : Int)
                              · rw [if_pos c128] at H
                                have c128b0 : decide (x114_3 < (y238.length : Int)) = true := decide_eq_true c128
                                clear c128
                                by_cases c129 : (!(((rd_T34 t241 x114_3).f0) == ((rd_T34 y238 x114_3).f0)) || (!((((rd_T34 t241 x114_3).f1).toList) == (((rd_T34 y238 x114_3).f1).toList)) || (!(((rd_T34 t241 x114_3).f2) == ((rd_T34 y238 x114_3).f2)) || ((!(((rd_T34 t241 x114_3).f3.f0) == ((rd_T34 y238 x114_3).f3.f0)) || (!(((rd_T34 t241 x114_3).f3.f1) == ((rd_T34 y238 x114_3).f3.f1)))))))) = true
                                · rw [if_pos c129] at H
                                  have c129b0 : (!(((rd_T34 t241 x114_3).f0) == ((rd_T34 y238 x114_3).f0)) || (!((((rd_T34 t241 x114_3).f1).toList) == (((rd_T34 y238 x114_3).f1).toList)) || (!(((rd_T34 t241 x114_3).f2) == ((rd_T34 y238 x114_3).f2)) || ((!(((rd_T34 t241 x114_3).f3.f0) == ((rd_T34 y238 x114_3).f3.f0)) || (!(((rd_T34 t241 x114_3).f3.f1) == ((rd_T34 y238 x114_3).f3.f1)))))))) = true := c129
                                  clear c129
                                  obtain rfl := Option.some.inj H
                                  have p248 : 0 ≤ (x114_3 : Int) := of_decide_eq_true (by first | (with_reducible assumption) | assumption)
                                  have q248 : x114_3 < (t241.length : Int) := of_decide_eq_true (by first | (with_reducible assumption) | assumption)
                                  obtain ⟨ad248, e248, hx248_0, hx248_1, hx248_2, hx248_3, hx248_4⟩ := at_T34 (Kd.R_reads' HO_10.out).2.2 x114_3 p248 q248
                                  cases e248
                                  replace p248 := eq_true p248
                                  replace q248 := eq_true q248
                                  obtain ⟨Ao130, co130, eo130⟩ := Kd.R_slice HO_4.out
                                  subst eo130
                                  have p249 : 0 ≤ (x114_3 : Int) := of_decide_eq_true (by first | (with_reducible assumption) | assumption)
                                  have q249 : x114_3 < (y238.length : Int) := of_decide_eq_true (by first | (with_reducible assumption) | assumption)
                                  obtain ⟨ad249, e249, hx249_0, hx249_1, hx249_2, hx249_3, hx249_4⟩ := at_T34 (Kd.R_reads' HO_4.out).2.2 x114_3 p249 q249
                                  cases e249
                                  replace p249 := eq_true p249
                                  replace q249 := eq_true q249
                                  go_wp2
                                  repeat (go_quiet (fail); try go_wp2)
                                  go_ret
                                  exact ⟨by first | rfl | (simp [errW_none, errW_some] <;> rfl) | (simp [*, errW_none, errW_some] <;> rfl), by repeat (first | (with_reducible first | exact HB.out | apply below_alloc | apply pw_below_drewN | apply below_drew1 | refine below_set ?_ GE247.out) | exact HB.out)⟩
                                · rw [if_neg c129] at H
                                  have c129b0 : (!(((rd_T34 t241 x114_3).f0) == ((rd_T34 y238 x114_3).f0)) || (!((((rd_T34 t241 x114_3).f1).toList) == (((rd_T34 y238 x114_3).f1).toList)) || (!(((rd_T34 t241 x114_3).f2) == ((rd_T34 y238 x114_3).f2)) || ((!(((rd_T34 t241 x114_3).f3.f0) == ((rd_T34 y238 x114_3).f3.f0)) || (!(((rd_T34 t241 x114_3).f3.f1) == ((rd_T34 y238 x114_3).f3.f1)))))))) = false := by simpa using c129
                                  clear c129
                                  have H' := Aside0.mk H
                                  clear H
                                  have p248 : 0 ≤ (x114_3 : Int) := of_decide_eq_true (by first | (with_reducible assumption) | assumption)
                                  have q248 : x114_3 < (t241.length : Int) := of_decide_eq_true (by first | (with_reducible assumption) | assumption)
                                  obtain ⟨ad248, e248, hx248_0, hx248_1, hx248_2, hx248_3, hx248_4⟩ := at_T34 (Kd.R_reads' HO_10.out).2.2 x114_3 p248 q248
                                  cases e248
                                  replace p248 := eq_true p248
                                  replace q248 := eq_true q248
                                  obtain ⟨Ao131, co131, eo131⟩ := Kd.R_slice HO_4.out
                                  subst eo131
                                  have p249 : 0 ≤ (x114_3 : Int) := of_decide_eq_true (by first | (with_reducible assumption) | assumption)
                                  have q249 : x114_3 < (y238.length : Int) := of_decide_eq_true (by first | (with_reducible assumption) | assumption)
                                  obtain ⟨ad249, e249, hx249_0, hx249_1, hx249_2, hx249_3, hx249_4⟩ := at_T34 (Kd.R_reads' HO_4.out).2.2 x114_3 p249 q249
                                  cases e249
                                  replace p249 := eq_true p249
                                  replace q249 := eq_true q249
                                  go_wp2
                                  repeat (go_quiet (fail); try go_wp2)
                                  go_roundg k3
                                  case measure => have := HK1.out; have := HJ111.out; have := HK3.out; omega
                                  case rel => exact ⟨(wrap64 (x114_3 + 1)), (by first | rfl | (simp; done) | (simp [*]; done)), H', ⟨by have := HK1.out; have := HJ111.out; have := HK3.out; omega⟩, ⟨by (with_reducible repeat (first | apply Kd.R_alloc | apply Kd.R_drewN | apply Kd.R_drew)); exact HO_4.out⟩, ⟨by (with_reducible repeat (first | apply Kd.R_alloc | apply Kd.R_drewN | apply Kd.R_drew)); exact HO_10.out⟩, ⟨by (with_reducible repeat (first | refine blk_drewN ?_ _ | refine blk_drew ?_ | refine blk_alloc ?_ _)); exact BK247.out⟩, ⟨by repeat (first | (with_reducible first | exact HB.out | apply below_alloc | apply pw_below_drewN | apply below_drew1 | refine below_set ?_ GE247.out) | exact HB.out)⟩⟩
                              · rw [if_neg c128] at H
                                exact absurd H (by simp)
                            · rw [if_neg c127] at H
                              exact absurd H (by simp)
                          · rw [if_neg c126] at H
                            exact absurd H (by simp)
                        · rw [if_neg c125] at H
                          have c125b0 : decide (x114_3 < (t241.length : Int)) = false := decide_eq_false c125
                          clear c125
                          obtain rfl := Option.some.inj H
                          go_wp2
                          repeat (go_quiet (fail); try go_wp2)
                          go_ret
                          exact ⟨by first | rfl | (simp [errW_none, errW_some] <;> rfl) | (simp [*, errW_none, errW_some] <;> rfl), by repeat (first | (with_reducible first | exact HB.out | apply below_alloc | apply pw_below_drewN | apply below_drew1 | refine below_set ?_ GE247.out) | exact HB.out)⟩
            · rw [if_neg c110] at H
              exact absurd H (by simp)
  · replace c3 := Bool.eq_false_iff.mpr c3
    subst c3
    have H1 : (some false) = some r := by rw [if_neg (show ¬ (false = true) by decide)] at H; exact H
    clear H
    have H := H1
    clear H1
    obtain rfl := Option.some.inj H
    go_enter Tryd.func8, Tryd.ntmps8
    go_wp2_with (first | (go_at_call 9; (with_reducible refine (palingslaw02_head.calls k  false _ ?sideG A2.out).mono ?_); (case sideG => exact GL.out.below (by repeat (first | (with_reducible first | exact HB.out | apply below_alloc | apply pw_below_drewN | apply below_drew1) | exact HB.out))); rintro e w132 ⟨rfl, hb⟩; have n0_ := Aside0.mk (below_step (by repeat (first | (with_reducible first | exact HB.out | apply below_alloc | apply pw_below_drewN | apply below_drew1) | exact HB.out)) hb); clear HB; have HB := n0_; clear n0_; (try clear hb); (try clear hb2); (try clear hk); (try clear hi)))
    repeat (go_quiet (first | (go_at_call 9; (with_reducible refine (palingslaw02_head.calls k  false _ ?sideG A2.out).mono ?_); (case sideG => exact GL.out.below (by repeat (first | (with_reducible first | exact HB.out | apply below_alloc | apply pw_below_drewN | apply below_drew1) | exact HB.out))); rintro e w132 ⟨rfl, hb⟩; have n0_ := Aside0.mk (below_step (by repeat (first | (with_reducible first | exact HB.out | apply below_alloc | apply pw_below_drewN | apply below_drew1) | exact HB.out)) hb); clear HB; have HB := n0_; clear n0_; (try clear hb); (try clear hb2); (try clear hk); (try clear hi))); try go_wp2_with (first | (go_at_call 9; (with_reducible refine (palingslaw02_head.calls k  false _ ?sideG A2.out).mono ?_); (case sideG => exact GL.out.below (by repeat (first | (with_reducible first | exact HB.out | apply below_alloc | apply pw_below_drewN | apply below_drew1) | exact HB.out))); rintro e w132 ⟨rfl, hb⟩; have n0_ := Aside0.mk (below_step (by repeat (first | (with_reducible first | exact HB.out | apply below_alloc | apply pw_below_drewN | apply below_drew1) | exact HB.out)) hb); clear HB; have HB := n0_; clear n0_; (try clear hb); (try clear hb2); (try clear hk); (try clear hi))))
    go_ret
    exact ⟨by first | rfl | (simp [errW_none, errW_some] <;> rfl) | (simp [*, errW_none, errW_some] <;> rfl), by repeat (first | (with_reducible first | exact HB.out | apply below_alloc | apply pw_below_drewN | apply below_drew1) | exact HB.out)⟩


end Go.Proofs.YtfljigegjhnidaaDoor.B
