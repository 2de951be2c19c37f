/- Out of the kit's print of this seat's functions, put together by a program of mine. -/
import Derived.Test.YteabbcnoamhofaaBx1
namespace Go.Proofs.Yteabbcnoamhofaa.B
open Go.RowKit Go.Proofs.YteabbcnoamhofaaW.PrintWords Go.Proofs.YteabbcnoamhofaaW.PrintLast Go.Proofs.YteabbcnoamhofaaW.PrintMore
attribute [local go_sem] max2_int min2_int max_two min_two max_three min_three max_four min_four   -- for this text's walks alone
set_option linter.unusedVariables false
set_option linter.unusedSimpArgs false

attribute [local go_sem high] eqA26 eqA33
/-! ### palingslaw18_same: function 14 -/
mutual
def palingslaw18_same.j0 : Nat → Bool → List (S26) → List (S33) → Int → Int → List (S26) → List (S33) → Int → Int → Option (Bool)
  | 0, _, _, _, _, _, _, _, _, _ => none
  | k + 1, x36, x217000, x217001, x217002, x217003, x218000, x218001, x218002, x218003 => if x36 = true then (some false) else (palingslaw18_same.l0 k (x217000.length : Int) 0 x217000 x217001 x217002 x217003 x218000 x218001 x218002 x218003)
def palingslaw18_same.l0 : Nat → Int → Int → List (S26) → List (S33) → Int → Int → List (S26) → List (S33) → Int → Int → Option (Bool)
  | 0, _, _, _, _, _, _, _, _, _, _ => none
  | k + 1, x39, x40, x217000, x217001, x217002, x217003, x218000, x218001, x218002, x218003 => if x40 < x39 then (if 0 ≤ x40 then (if x40 < (x217000.length : Int) then (if x40 < (x218000.length : Int) then (if (!(((rd_T26 x217000 x40).f0) == ((rd_T26 x218000 x40).f0)) || (!(((rd_T26 x217000 x40).f1) == ((rd_T26 x218000 x40).f1)) || (!(((rd_T26 x217000 x40).f2) == ((rd_T26 x218000 x40).f2)) || (!(((rd_T26 x217000 x40).f3) == ((rd_T26 x218000 x40).f3)) || (!(((rd_T26 x217000 x40).f4) == ((rd_T26 x218000 x40).f4)) || (!(((rd_T26 x217000 x40).f5) == ((rd_T26 x218000 x40).f5)))))))) = true then (some false) else (palingslaw18_same.l0 k x39 (wrap64 (x40 + 1)) x217000 x217001 x217002 x217003 x218000 x218001 x218002 x218003)) else (none)) else (none)) else (none)) else (palingslaw18_same.l1 k (x217001.length : Int) 0 x217000 x217001 x217002 x217003 x218000 x218001 x218002 x218003)
def palingslaw18_same.l1 : Nat → Int → Int → List (S26) → List (S33) → Int → Int → List (S26) → List (S33) → Int → Int → Option (Bool)
  | 0, _, _, _, _, _, _, _, _, _, _ => none
  | k + 1, x57, x58, x217000, x217001, x217002, x217003, x218000, x218001, x218002, x218003 => if x58 < x57 then (if 0 ≤ x58 then (if x58 < (x217001.length : Int) then (if x58 < (x218001.length : Int) then (if (!(((rd_T33 x217001 x58).f0) == ((rd_T33 x218001 x58).f0)) || (!(((rd_T33 x217001 x58).f1) == ((rd_T33 x218001 x58).f1)) || (!(((rd_T33 x217001 x58).f2) == ((rd_T33 x218001 x58).f2))))) = true then (some false) else (palingslaw18_same.l1 k x57 (wrap64 (x58 + 1)) x217000 x217001 x217002 x217003 x218000 x218001 x218002 x218003)) else (none)) else (none)) else (none)) else (some true)
end
def palingslaw18_same.f (k : Nat) (l0_0 : List (S26)) (l0_1 : List (S33)) (a0_2 : Int) (a0_3 : Int) (l1_0 : List (S26)) (l1_1 : List (S33)) (a1_2 : Int) (a1_3 : Int) : Option (Bool) := if a0_3 = a1_3 then (if a0_2 = a1_2 then (if (l0_0.length : Int) = (l1_0.length : Int) then (palingslaw18_same.j0 k ((l0_1.length : Int) != (l1_1.length : Int)) l0_0 l0_1 a0_2 a0_3 l1_0 l1_1 a1_2 a1_3) else (palingslaw18_same.j0 k true l0_0 l0_1 a0_2 a0_3 l1_0 l1_1 a1_2 a1_3)) else (palingslaw18_same.j0 k true l0_0 l0_1 a0_2 a0_3 l1_0 l1_1 a1_2 a1_3)) else (palingslaw18_same.j0 k true l0_0 l0_1 a0_2 a0_3 l1_0 l1_1 a1_2 a1_3)
theorem palingslaw18_same.mono_l : ∀ k, (∀ y0 y1 y2 y3 y4 y5 y6 y7 y8, LeO (palingslaw18_same.j0 k y0 y1 y2 y3 y4 y5 y6 y7 y8) (palingslaw18_same.j0 (k + 1) y0 y1 y2 y3 y4 y5 y6 y7 y8)) ∧ (∀ y0 y1 y2 y3 y4 y5 y6 y7 y8 y9, LeO (palingslaw18_same.l0 k y0 y1 y2 y3 y4 y5 y6 y7 y8 y9) (palingslaw18_same.l0 (k + 1) y0 y1 y2 y3 y4 y5 y6 y7 y8 y9)) ∧ (∀ y0 y1 y2 y3 y4 y5 y6 y7 y8 y9, LeO (palingslaw18_same.l1 k y0 y1 y2 y3 y4 y5 y6 y7 y8 y9) (palingslaw18_same.l1 (k + 1) y0 y1 y2 y3 y4 y5 y6 y7 y8 y9))
  | 0 => ⟨fun _ _ _ _ _ _ _ _ _ r h => by simp [palingslaw18_same.j0] at h, fun _ _ _ _ _ _ _ _ _ _ r h => by simp [palingslaw18_same.l0] at h, fun _ _ _ _ _ _ _ _ _ _ r h => by simp [palingslaw18_same.l1] at h⟩
  | k + 1 => by
    obtain ⟨ih0, ih1, ih2⟩ := palingslaw18_same.mono_l k
    refine ⟨?_, ?_, ?_⟩
    · intro y0 y1 y2 y3 y4 y5 y6 y7 y8
      unfold palingslaw18_same.j0
      repeat' first
      | (with_reducible exact ih0 _ _ _ _ _ _ _ _ _)
      | (with_reducible exact ih1 _ _ _ _ _ _ _ _ _ _)
      | (with_reducible exact ih2 _ _ _ _ _ _ _ _ _ _)
      | (with_reducible exact LeO.refl _)
      | (with_reducible exact LeO.none _)
      | (with_reducible refine LeO.ite ?_ ?_)
      | (with_reducible refine LeO.bind ?_ (fun _ => ?_))
      | exact ih0 _ _ _ _ _ _ _ _ _
      | exact ih1 _ _ _ _ _ _ _ _ _ _
      | exact ih2 _ _ _ _ _ _ _ _ _ _
      | exact LeO.none _
      | refine LeO.ite ?_ ?_
      | refine LeO.bind ?_ (fun _ => ?_)
    · intro y0 y1 y2 y3 y4 y5 y6 y7 y8 y9
      unfold palingslaw18_same.l0
      repeat' first
      | (with_reducible exact ih0 _ _ _ _ _ _ _ _ _)
      | (with_reducible exact ih1 _ _ _ _ _ _ _ _ _ _)
      | (with_reducible exact ih2 _ _ _ _ _ _ _ _ _ _)
      | (with_reducible exact LeO.refl _)
      | (with_reducible exact LeO.none _)
      | (with_reducible refine LeO.ite ?_ ?_)
      | (with_reducible refine LeO.bind ?_ (fun _ => ?_))
      | exact ih0 _ _ _ _ _ _ _ _ _
      | exact ih1 _ _ _ _ _ _ _ _ _ _
      | exact ih2 _ _ _ _ _ _ _ _ _ _
      | exact LeO.none _
      | refine LeO.ite ?_ ?_
      | refine LeO.bind ?_ (fun _ => ?_)
    · intro y0 y1 y2 y3 y4 y5 y6 y7 y8 y9
      unfold palingslaw18_same.l1
      repeat' first
      | (with_reducible exact ih0 _ _ _ _ _ _ _ _ _)
      | (with_reducible exact ih1 _ _ _ _ _ _ _ _ _ _)
      | (with_reducible exact ih2 _ _ _ _ _ _ _ _ _ _)
      | (with_reducible exact LeO.refl _)
      | (with_reducible exact LeO.none _)
      | (with_reducible refine LeO.ite ?_ ?_)
      | (with_reducible refine LeO.bind ?_ (fun _ => ?_))
      | exact ih0 _ _ _ _ _ _ _ _ _
      | exact ih1 _ _ _ _ _ _ _ _ _ _
      | exact ih2 _ _ _ _ _ _ _ _ _ _
      | exact LeO.none _
      | refine LeO.ite ?_ ?_
      | refine LeO.bind ?_ (fun _ => ?_)
theorem palingslaw18_same.mono : ∀ a0 a1 a2 a3 a4 a5 a6 a7 k, LeO (palingslaw18_same.f k a0 a1 a2 a3 a4 a5 a6 a7) (palingslaw18_same.f (k + 1) a0 a1 a2 a3 a4 a5 a6 a7) := by
  intro a0 a1 a2 a3 a4 a5 a6 a7 k
  obtain ⟨ih0, ih1, ih2⟩ := palingslaw18_same.mono_l k
  unfold palingslaw18_same.f
  repeat' first
      | (with_reducible exact ih0 _ _ _ _ _ _ _ _ _)
      | (with_reducible exact ih1 _ _ _ _ _ _ _ _ _ _)
      | (with_reducible exact ih2 _ _ _ _ _ _ _ _ _ _)
      | (with_reducible exact LeO.refl _)
      | (with_reducible exact LeO.none _)
      | (with_reducible refine LeO.ite ?_ ?_)
      | (with_reducible refine LeO.bind ?_ (fun _ => ?_))
      | exact ih0 _ _ _ _ _ _ _ _ _
      | exact ih1 _ _ _ _ _ _ _ _ _ _
      | exact ih2 _ _ _ _ _ _ _ _ _ _
      | exact LeO.none _
      | refine LeO.ite ?_ ?_
      | refine LeO.bind ?_ (fun _ => ?_)
set_option maxHeartbeats 8000000 in
set_option maxRecDepth 100000 in
theorem palingslaw18_same.calls (k : Nat) (A0_0 : Option Addr) (c0_0 : Nat) (l0_0 : List (S26)) (A0_1 : Option Addr) (c0_1 : Nat) (l0_1 : List (S33)) (a0_2 : Int) (a0_3 : Int) (A1_0 : Option Addr) (c1_0 : Nat) (l1_0 : List (S26)) (A1_1 : Option Addr) (c1_1 : Nat) (l1_1 : List (S33)) (a1_2 : Int) (a1_3 : Int) (r : Bool) (w : World) (hr0_0 : Kd.C k26 w A0_0 l0_0.length l0_0) (hc0_0 : l0_0.length ≤ c0_0) (hr0_1 : Kd.C k33 w A0_1 l0_1.length l0_1) (hc0_1 : l0_1.length ≤ c0_1) (hr1_0 : Kd.C k26 w A1_0 l1_0.length l1_0) (hc1_0 : l1_0.length ≤ c1_0) (hr1_1 : Kd.C k33 w A1_1 l1_1.length l1_1) (hc1_1 : l1_1.length ≤ c1_1) (h : palingslaw18_same.f k l0_0 l0_1 a0_2 a0_3 l1_0 l1_1 a1_2 a1_3 = some r) :
    Calls Try.prog 14 #[.agg #[.slice A0_0 l0_0.length c0_0, .slice A0_1 l0_1.length c0_1, .int .i64 a0_2, .int .i64 a0_3], .agg #[.slice A1_0 l1_0.length c1_0, .slice A1_1 l1_1.length c1_1, .int .i64 a1_2, .int .i64 a1_3]] w fun e w' => e = .returned (.bool r) ∧ Below w.heap.size w w' := by
  have hu30 := Try.underlying30
  have hu26 := Try.underlying26
  have hu33 := Try.underlying33
  have HR0_0 := Aside0.mk hr0_0
  have HC0_0 := Aside0.mk hc0_0
  clear hr0_0 hc0_0
  have HR0_1 := Aside0.mk hr0_1
  have HC0_1 := Aside0.mk hc0_1
  clear hr0_1 hc0_1
  have HR1_0 := Aside0.mk hr1_0
  have HC1_0 := Aside0.mk hc1_0
  clear hr1_0 hc1_0
  have HR1_1 := Aside0.mk hr1_1
  have HC1_1 := Aside0.mk hc1_1
  clear hr1_1 hc1_1
  have HB := Aside0.mk (Below.refl w.heap.size w)
  have H : (if a0_3 = a1_3 then (if a0_2 = a1_2 then (if (l0_0.length : Int) = (l1_0.length : Int) then (palingslaw18_same.j0 k ((l0_1.length : Int) != (l1_1.length : Int)) l0_0 l0_1 a0_2 a0_3 l1_0 l1_1 a1_2 a1_3) else (palingslaw18_same.j0 k true l0_0 l0_1 a0_2 a0_3 l1_0 l1_1 a1_2 a1_3)) else (palingslaw18_same.j0 k true l0_0 l0_1 a0_2 a0_3 l1_0 l1_1 a1_2 a1_3)) else (palingslaw18_same.j0 k true l0_0 l0_1 a0_2 a0_3 l1_0 l1_1 a1_2 a1_3)) = some r := h
  clear h
  have HC3 := Aside0.mk H
  clear H
  go_enter Try.func14, Try.ntmps14
  go_upto_region 1 with (first | ((with_reducible refine gate_dst (N := 2) rfl ?_); (try (refine gate_guard (by rfl) ?_; dsimp only)); refine box_event ?hg (N := 2) ?hd (cs := #[.slice A0_0 l0_0.length c0_0, .slice A0_1 l0_1.length c0_1, .int .i64 a0_2, .int .i64 a0_3]) (t := 30) ?hr ?_; (case hd => rfl); (case hg => rfl); (case hr => first | (go_simp; done) | (go_simp; rfl)); intro gb216 hg w4 hbox hb; have n0_ := Aside0.mk (below_step (by repeat (first | (with_reducible first | exact HB.out | apply below_alloc | apply pw_below_drewN | apply below_drew1) | exact HB.out)) hb); have n1_ := Aside0.mk (hbox); have n2_ := Aside0.mk ((by rw [hg]; exact (below_size (by repeat (first | (with_reducible first | exact HB.out | apply below_alloc | apply pw_below_drewN | apply below_drew1) | exact HB.out))) : w.heap.size ≤ gb216)); have n3_ := Aside0.mk ((by rw [hg]; exact (below_size (by repeat (first | (with_reducible first | exact HB.out | apply below_alloc | apply pw_below_drewN | apply below_drew1) | exact HB.out))) : w.heap.size ≤ gb216)); clear HB; have HB := n0_; have BK216 := n1_; have GW216 := n2_; have GE216 := n3_; clear n0_ n1_ n2_ n3_; clear hb hbox hg) | ((with_reducible refine gate_dst (N := 3) rfl ?_); (try (refine gate_guard (by rfl) ?_; dsimp only)); refine box_event ?hg (N := 3) ?hd (cs := #[.slice A1_0 l1_0.length c1_0, .slice A1_1 l1_1.length c1_1, .int .i64 a1_2, .int .i64 a1_3]) (t := 30) ?hr ?_; (case hd => rfl); (case hg => rfl); (case hr => first | (go_simp; done) | (go_simp; rfl)); intro gb217 hg w5 hbox hb; have n0_ := Aside0.mk (blk_below (g := gb216) (o := .cells #[.slice A0_0 l0_0.length c0_0, .slice A0_1 l0_1.length c0_1, .int .i64 a0_2, .int .i64 a0_3] 30 (0, 0)) (by (with_reducible repeat (first | refine blk_drewN ?_ _ | refine blk_drew ?_ | refine blk_alloc ?_ _)); exact BK216.out) hb); have n1_ := Aside0.mk (below_step (by repeat (first | (with_reducible first | exact HB.out | apply below_alloc | apply pw_below_drewN | apply below_drew1 | refine below_set ?_ GE216.out) | exact HB.out)) hb); have n2_ := Aside0.mk (hbox); have n3_ := Aside0.mk ((by rw [hg]; exact (below_size (by repeat (first | (with_reducible first | exact HB.out | apply below_alloc | apply pw_below_drewN | apply below_drew1 | refine below_set ?_ GE216.out) | exact HB.out))) : w.heap.size ≤ gb217)); have n4_ := Aside0.mk ((by rw [hg]; exact (below_size (by repeat (first | (with_reducible first | exact HB.out | apply below_alloc | apply pw_below_drewN | apply below_drew1 | refine below_set ?_ GE216.out) | exact HB.out))) : w.heap.size ≤ gb217)); have n5_ := Aside0.mk ((by rw [hg]; exact Nat.ne_of_lt (blk_lt (g := gb216) (o := .cells #[.slice A0_0 l0_0.length c0_0, .slice A0_1 l0_1.length c0_1, .int .i64 a0_2, .int .i64 a0_3] 30 (0, 0)) (by (with_reducible repeat (first | refine blk_drewN ?_ _ | refine blk_drew ?_ | refine blk_alloc ?_ _)); exact BK216.out)) : gb216 ≠ gb217)); have n6_ := Aside0.mk ((by rw [hg]; exact Nat.ne_of_gt (blk_lt (g := gb216) (o := .cells #[.slice A0_0 l0_0.length c0_0, .slice A0_1 l0_1.length c0_1, .int .i64 a0_2, .int .i64 a0_3] 30 (0, 0)) (by (with_reducible repeat (first | refine blk_drewN ?_ _ | refine blk_drew ?_ | refine blk_alloc ?_ _)); exact BK216.out)) : gb217 ≠ gb216)); clear BK216; clear HB; have BK216 := n0_; have HB := n1_; have BK217 := n2_; have GW217 := n3_; have GE217 := n4_; have NB216_217 := n5_; have NB217_216 := n6_; clear n0_ n1_ n2_ n3_ n4_ n5_ n6_; clear hb hbox hg))
  repeat (go_quiet (first | ((with_reducible refine gate_dst (N := 2) rfl ?_); (try (refine gate_guard (by rfl) ?_; dsimp only)); refine box_event ?hg (N := 2) ?hd (cs := #[.slice A0_0 l0_0.length c0_0, .slice A0_1 l0_1.length c0_1, .int .i64 a0_2, .int .i64 a0_3]) (t := 30) ?hr ?_; (case hd => rfl); (case hg => rfl); (case hr => first | (go_simp; done) | (go_simp; rfl)); intro gb216 hg w4 hbox hb; have n0_ := Aside0.mk (below_step (by repeat (first | (with_reducible first | exact HB.out | apply below_alloc | apply pw_below_drewN | apply below_drew1) | exact HB.out)) hb); have n1_ := Aside0.mk (hbox); have n2_ := Aside0.mk ((by rw [hg]; exact (below_size (by repeat (first | (with_reducible first | exact HB.out | apply below_alloc | apply pw_below_drewN | apply below_drew1) | exact HB.out))) : w.heap.size ≤ gb216)); have n3_ := Aside0.mk ((by rw [hg]; exact (below_size (by repeat (first | (with_reducible first | exact HB.out | apply below_alloc | apply pw_below_drewN | apply below_drew1) | exact HB.out))) : w.heap.size ≤ gb216)); clear HB; have HB := n0_; have BK216 := n1_; have GW216 := n2_; have GE216 := n3_; clear n0_ n1_ n2_ n3_; clear hb hbox hg) | ((with_reducible refine gate_dst (N := 3) rfl ?_); (try (refine gate_guard (by rfl) ?_; dsimp only)); refine box_event ?hg (N := 3) ?hd (cs := #[.slice A1_0 l1_0.length c1_0, .slice A1_1 l1_1.length c1_1, .int .i64 a1_2, .int .i64 a1_3]) (t := 30) ?hr ?_; (case hd => rfl); (case hg => rfl); (case hr => first | (go_simp; done) | (go_simp; rfl)); intro gb217 hg w5 hbox hb; have n0_ := Aside0.mk (blk_below (g := gb216) (o := .cells #[.slice A0_0 l0_0.length c0_0, .slice A0_1 l0_1.length c0_1, .int .i64 a0_2, .int .i64 a0_3] 30 (0, 0)) (by (with_reducible repeat (first | refine blk_drewN ?_ _ | refine blk_drew ?_ | refine blk_alloc ?_ _)); exact BK216.out) hb); have n1_ := Aside0.mk (below_step (by repeat (first | (with_reducible first | exact HB.out | apply below_alloc | apply pw_below_drewN | apply below_drew1 | refine below_set ?_ GE216.out) | exact HB.out)) hb); have n2_ := Aside0.mk (hbox); have n3_ := Aside0.mk ((by rw [hg]; exact (below_size (by repeat (first | (with_reducible first | exact HB.out | apply below_alloc | apply pw_below_drewN | apply below_drew1 | refine below_set ?_ GE216.out) | exact HB.out))) : w.heap.size ≤ gb217)); have n4_ := Aside0.mk ((by rw [hg]; exact (below_size (by repeat (first | (with_reducible first | exact HB.out | apply below_alloc | apply pw_below_drewN | apply below_drew1 | refine below_set ?_ GE216.out) | exact HB.out))) : w.heap.size ≤ gb217)); have n5_ := Aside0.mk ((by rw [hg]; exact Nat.ne_of_lt (blk_lt (g := gb216) (o := .cells #[.slice A0_0 l0_0.length c0_0, .slice A0_1 l0_1.length c0_1, .int .i64 a0_2, .int .i64 a0_3] 30 (0, 0)) (by (with_reducible repeat (first | refine blk_drewN ?_ _ | refine blk_drew ?_ | refine blk_alloc ?_ _)); exact BK216.out)) : gb216 ≠ gb217)); have n6_ := Aside0.mk ((by rw [hg]; exact Nat.ne_of_gt (blk_lt (g := gb216) (o := .cells #[.slice A0_0 l0_0.length c0_0, .slice A0_1 l0_1.length c0_1, .int .i64 a0_2, .int .i64 a0_3] 30 (0, 0)) (by (with_reducible repeat (first | refine blk_drewN ?_ _ | refine blk_drew ?_ | refine blk_alloc ?_ _)); exact BK216.out)) : gb217 ≠ gb216)); clear BK216; clear HB; have BK216 := n0_; have HB := n1_; have BK217 := n2_; have GW217 := n3_; have GE217 := n4_; have NB216_217 := n5_; have NB217_216 := n6_; clear n0_ n1_ n2_ n3_ n4_ n5_ n6_; clear hb hbox hg)); go_upto_region 1 with (first | ((with_reducible refine gate_dst (N := 2) rfl ?_); (try (refine gate_guard (by rfl) ?_; dsimp only)); refine box_event ?hg (N := 2) ?hd (cs := #[.slice A0_0 l0_0.length c0_0, .slice A0_1 l0_1.length c0_1, .int .i64 a0_2, .int .i64 a0_3]) (t := 30) ?hr ?_; (case hd => rfl); (case hg => rfl); (case hr => first | (go_simp; done) | (go_simp; rfl)); intro gb216 hg w4 hbox hb; have n0_ := Aside0.mk (below_step (by repeat (first | (with_reducible first | exact HB.out | apply below_alloc | apply pw_below_drewN | apply below_drew1) | exact HB.out)) hb); have n1_ := Aside0.mk (hbox); have n2_ := Aside0.mk ((by rw [hg]; exact (below_size (by repeat (first | (with_reducible first | exact HB.out | apply below_alloc | apply pw_below_drewN | apply below_drew1) | exact HB.out))) : w.heap.size ≤ gb216)); have n3_ := Aside0.mk ((by rw [hg]; exact (below_size (by repeat (first | (with_reducible first | exact HB.out | apply below_alloc | apply pw_below_drewN | apply below_drew1) | exact HB.out))) : w.heap.size ≤ gb216)); clear HB; have HB := n0_; have BK216 := n1_; have GW216 := n2_; have GE216 := n3_; clear n0_ n1_ n2_ n3_; clear hb hbox hg) | ((with_reducible refine gate_dst (N := 3) rfl ?_); (try (refine gate_guard (by rfl) ?_; dsimp only)); refine box_event ?hg (N := 3) ?hd (cs := #[.slice A1_0 l1_0.length c1_0, .slice A1_1 l1_1.length c1_1, .int .i64 a1_2, .int .i64 a1_3]) (t := 30) ?hr ?_; (case hd => rfl); (case hg => rfl); (case hr => first | (go_simp; done) | (go_simp; rfl)); intro gb217 hg w5 hbox hb; have n0_ := Aside0.mk (blk_below (g := gb216) (o := .cells #[.slice A0_0 l0_0.length c0_0, .slice A0_1 l0_1.length c0_1, .int .i64 a0_2, .int .i64 a0_3] 30 (0, 0)) (by (with_reducible repeat (first | refine blk_drewN ?_ _ | refine blk_drew ?_ | refine blk_alloc ?_ _)); exact BK216.out) hb); have n1_ := Aside0.mk (below_step (by repeat (first | (with_reducible first | exact HB.out | apply below_alloc | apply pw_below_drewN | apply below_drew1 | refine below_set ?_ GE216.out) | exact HB.out)) hb); have n2_ := Aside0.mk (hbox); have n3_ := Aside0.mk ((by rw [hg]; exact (below_size (by repeat (first | (with_reducible first | exact HB.out | apply below_alloc | apply pw_below_drewN | apply below_drew1 | refine below_set ?_ GE216.out) | exact HB.out))) : w.heap.size ≤ gb217)); have n4_ := Aside0.mk ((by rw [hg]; exact (below_size (by repeat (first | (with_reducible first | exact HB.out | apply below_alloc | apply pw_below_drewN | apply below_drew1 | refine below_set ?_ GE216.out) | exact HB.out))) : w.heap.size ≤ gb217)); have n5_ := Aside0.mk ((by rw [hg]; exact Nat.ne_of_lt (blk_lt (g := gb216) (o := .cells #[.slice A0_0 l0_0.length c0_0, .slice A0_1 l0_1.length c0_1, .int .i64 a0_2, .int .i64 a0_3] 30 (0, 0)) (by (with_reducible repeat (first | refine blk_drewN ?_ _ | refine blk_drew ?_ | refine blk_alloc ?_ _)); exact BK216.out)) : gb216 ≠ gb217)); have n6_ := Aside0.mk ((by rw [hg]; exact Nat.ne_of_gt (blk_lt (g := gb216) (o := .cells #[.slice A0_0 l0_0.length c0_0, .slice A0_1 l0_1.length c0_1, .int .i64 a0_2, .int .i64 a0_3] 30 (0, 0)) (by (with_reducible repeat (first | refine blk_drewN ?_ _ | refine blk_drew ?_ | refine blk_alloc ?_ _)); exact BK216.out)) : gb217 ≠ gb216)); clear BK216; clear HB; have BK216 := n0_; have HB := n1_; have BK217 := n2_; have GW217 := n3_; have GE217 := n4_; have NB216_217 := n5_; have NB217_216 := n6_; clear n0_ n1_ n2_ n3_ n4_ n5_ n6_; clear hb hbox hg)))
  (try simp only [Act.put, List.setIfInBounds_toArray, List.set_cons_zero, List.set_cons_succ])
  go_cut [36] (fun v36 wc => ∃ (kq : Nat) (x36_2 : Bool), v36 = .bool x36_2 ∧ Aside0 (palingslaw18_same.j0 kq x36_2 l0_0 l0_1 a0_2 a0_3 l1_0 l1_1 a1_2 a1_3 = some r) ∧ Aside0 (kq ≤ k) ∧ Aside0 (wc.heap[gb216]? = some (.cells #[(.slice A0_0 l0_0.length c0_0), (.slice A0_1 l0_1.length c0_1), .int .i64 a0_2, .int .i64 a0_3] 30 (0, 0))) ∧ Aside0 (wc.heap[gb217]? = some (.cells #[(.slice A1_0 l1_0.length c1_0), (.slice A1_1 l1_1.length c1_1), .int .i64 a1_2, .int .i64 a1_3] 30 (0, 0))) ∧ Aside0 (Below w.heap.size w wc))
  case first =>
    have H := HC3.out
    clear HC3
    by_cases c6 : a0_3 = a1_3
    · rw [if_pos c6] at H
      have c6b0 : (a0_3 == a1_3) = true := beq_iff_eq.mpr c6
      have c6b1 : (a0_3 != a1_3) = false := bne_eq_false_iff_eq.mpr c6
      clear c6
      (first | rw [c6b0] | (simp only [i64_w, i32_w]; rw [c6b0]) | skip)
      by_cases c7 : a0_2 = a1_2
      · rw [if_pos c7] at H
        have c7b0 : (a0_2 == a1_2) = true := beq_iff_eq.mpr c7
        have c7b1 : (a0_2 != a1_2) = false := bne_eq_false_iff_eq.mpr c7
        clear c7
        by_cases c8 : (l0_0.length : Int) = (l1_0.length : Int)
        · rw [if_pos c8] at H
          have c8b0 : ((l0_0.length : Int) == (l1_0.length : Int)) = true := beq_iff_eq.mpr c8
          have c8b1 : ((l0_0.length : Int) != (l1_0.length : Int)) = false := bne_eq_false_iff_eq.mpr c8
          have c8b2 : (l0_0.length == l1_0.length) = true := by first | simpa using c8 | (simp at c8 ⊢; omega)
          clear c8
          have H' := Aside0.mk H
          clear H
          have hnb9 := NB216_217.out
          have hnc9 := NB217_216.out
          have hcz10_0 : w5.cell? ⟨gb216, 0, none⟩ = some (.slice A0_0 l0_0.length c0_0) := (blk_cell BK216.out 0).trans rfl
          have hcz10_1 : w5.cell? ⟨gb216, 1, none⟩ = some (.slice A0_1 l0_1.length c0_1) := (blk_cell BK216.out 1).trans rfl
          have hcz10_2 : w5.cell? ⟨gb216, 2, none⟩ = some (.int .i64 a0_2) := (blk_cell BK216.out 2).trans rfl
          have hcz10_3 : w5.cell? ⟨gb216, 3, none⟩ = some (.int .i64 a0_3) := (blk_cell BK216.out 3).trans rfl
          have hfz10_0 := blk_frozen BK216.out 0
          have hfz10_1 := blk_frozen BK216.out 1
          have hfz10_2 := blk_frozen BK216.out 2
          have hfz10_3 := blk_frozen BK216.out 3
          have hcz11_0 : w5.cell? ⟨gb217, 0, none⟩ = some (.slice A1_0 l1_0.length c1_0) := (blk_cell BK217.out 0).trans rfl
          have hcz11_1 : w5.cell? ⟨gb217, 1, none⟩ = some (.slice A1_1 l1_1.length c1_1) := (blk_cell BK217.out 1).trans rfl
          have hcz11_2 : w5.cell? ⟨gb217, 2, none⟩ = some (.int .i64 a1_2) := (blk_cell BK217.out 2).trans rfl
          have hcz11_3 : w5.cell? ⟨gb217, 3, none⟩ = some (.int .i64 a1_3) := (blk_cell BK217.out 3).trans rfl
          have hfz11_0 := blk_frozen BK217.out 0
          have hfz11_1 := blk_frozen BK217.out 1
          have hfz11_2 := blk_frozen BK217.out 2
          have hfz11_3 := blk_frozen BK217.out 3
          go_wp2
          repeat (go_quiet (fail); try go_wp2)
          go_meet
          case rel => exact ⟨_, (((l0_1.length : Int) != (l1_1.length : Int))), (by first | rfl | (simp; done) | (simp [*]; done)), H', ⟨by first | omega | exact Nat.le_refl _⟩, ⟨by (with_reducible repeat (first | refine blk_drewN ?_ _ | refine blk_drew ?_ | refine blk_alloc ?_ _)); exact BK216.out⟩, ⟨by (with_reducible repeat (first | refine blk_drewN ?_ _ | refine blk_drew ?_ | refine blk_alloc ?_ _)); exact BK217.out⟩, ⟨by repeat (first | (with_reducible first | exact HB.out | apply below_alloc | apply pw_below_drewN | apply below_drew1 | refine below_set ?_ GE216.out | refine below_set ?_ GE217.out) | exact HB.out)⟩⟩
        · rw [if_neg c8] at H
          have c8b0 : ((l0_0.length : Int) == (l1_0.length : Int)) = false := beq_eq_false_iff_ne.mpr c8
          have c8b1 : ((l0_0.length : Int) != (l1_0.length : Int)) = true := bne_iff_ne.mpr c8
          have c8b2 : (l0_0.length == l1_0.length) = false := by first | simpa using c8 | (simp at c8 ⊢; omega)
          have H' := Aside0.mk H
          clear H
          have hnb12 := NB216_217.out
          have hnc12 := NB217_216.out
          have hcz13_0 : w5.cell? ⟨gb216, 0, none⟩ = some (.slice A0_0 l0_0.length c0_0) := (blk_cell BK216.out 0).trans rfl
          have hcz13_1 : w5.cell? ⟨gb216, 1, none⟩ = some (.slice A0_1 l0_1.length c0_1) := (blk_cell BK216.out 1).trans rfl
          have hcz13_2 : w5.cell? ⟨gb216, 2, none⟩ = some (.int .i64 a0_2) := (blk_cell BK216.out 2).trans rfl
          have hcz13_3 : w5.cell? ⟨gb216, 3, none⟩ = some (.int .i64 a0_3) := (blk_cell BK216.out 3).trans rfl
          have hfz13_0 := blk_frozen BK216.out 0
          have hfz13_1 := blk_frozen BK216.out 1
          have hfz13_2 := blk_frozen BK216.out 2
          have hfz13_3 := blk_frozen BK216.out 3
          have hcz14_0 : w5.cell? ⟨gb217, 0, none⟩ = some (.slice A1_0 l1_0.length c1_0) := (blk_cell BK217.out 0).trans rfl
          have hcz14_1 : w5.cell? ⟨gb217, 1, none⟩ = some (.slice A1_1 l1_1.length c1_1) := (blk_cell BK217.out 1).trans rfl
          have hcz14_2 : w5.cell? ⟨gb217, 2, none⟩ = some (.int .i64 a1_2) := (blk_cell BK217.out 2).trans rfl
          have hcz14_3 : w5.cell? ⟨gb217, 3, none⟩ = some (.int .i64 a1_3) := (blk_cell BK217.out 3).trans rfl
          have hfz14_0 := blk_frozen BK217.out 0
          have hfz14_1 := blk_frozen BK217.out 1
          have hfz14_2 := blk_frozen BK217.out 2
          have hfz14_3 := blk_frozen BK217.out 3
          go_wp2
          repeat (go_quiet (fail); try go_wp2)
          go_meet
          case rel => exact ⟨_, (true), (by first | rfl | (simp; done) | (simp [*]; done)), H', ⟨by first | omega | exact Nat.le_refl _⟩, ⟨by (with_reducible repeat (first | refine blk_drewN ?_ _ | refine blk_drew ?_ | refine blk_alloc ?_ _)); exact BK216.out⟩, ⟨by (with_reducible repeat (first | refine blk_drewN ?_ _ | refine blk_drew ?_ | refine blk_alloc ?_ _)); exact BK217.out⟩, ⟨by repeat (first | (with_reducible first | exact HB.out | apply below_alloc | apply pw_below_drewN | apply below_drew1 | refine below_set ?_ GE216.out | refine below_set ?_ GE217.out) | exact HB.out)⟩⟩
      · rw [if_neg c7] at H
        have c7b0 : (a0_2 == a1_2) = false := beq_eq_false_iff_ne.mpr c7
        have c7b1 : (a0_2 != a1_2) = true := bne_iff_ne.mpr c7
        have H' := Aside0.mk H
        clear H
        have hnb15 := NB216_217.out
        have hnc15 := NB217_216.out
        have hcz16_0 : w5.cell? ⟨gb216, 0, none⟩ = some (.slice A0_0 l0_0.length c0_0) := (blk_cell BK216.out 0).trans rfl
        have hcz16_1 : w5.cell? ⟨gb216, 1, none⟩ = some (.slice A0_1 l0_1.length c0_1) := (blk_cell BK216.out 1).trans rfl
        have hcz16_2 : w5.cell? ⟨gb216, 2, none⟩ = some (.int .i64 a0_2) := (blk_cell BK216.out 2).trans rfl
        have hcz16_3 : w5.cell? ⟨gb216, 3, none⟩ = some (.int .i64 a0_3) := (blk_cell BK216.out 3).trans rfl
        have hfz16_0 := blk_frozen BK216.out 0
        have hfz16_1 := blk_frozen BK216.out 1
        have hfz16_2 := blk_frozen BK216.out 2
        have hfz16_3 := blk_frozen BK216.out 3
        have hcz17_0 : w5.cell? ⟨gb217, 0, none⟩ = some (.slice A1_0 l1_0.length c1_0) := (blk_cell BK217.out 0).trans rfl
        have hcz17_1 : w5.cell? ⟨gb217, 1, none⟩ = some (.slice A1_1 l1_1.length c1_1) := (blk_cell BK217.out 1).trans rfl
        have hcz17_2 : w5.cell? ⟨gb217, 2, none⟩ = some (.int .i64 a1_2) := (blk_cell BK217.out 2).trans rfl
        have hcz17_3 : w5.cell? ⟨gb217, 3, none⟩ = some (.int .i64 a1_3) := (blk_cell BK217.out 3).trans rfl
        have hfz17_0 := blk_frozen BK217.out 0
        have hfz17_1 := blk_frozen BK217.out 1
        have hfz17_2 := blk_frozen BK217.out 2
        have hfz17_3 := blk_frozen BK217.out 3
        go_wp2
        repeat (go_quiet (fail); try go_wp2)
        go_meet
        case rel => exact ⟨_, (true), (by first | rfl | (simp; done) | (simp [*]; done)), H', ⟨by first | omega | exact Nat.le_refl _⟩, ⟨by (with_reducible repeat (first | refine blk_drewN ?_ _ | refine blk_drew ?_ | refine blk_alloc ?_ _)); exact BK216.out⟩, ⟨by (with_reducible repeat (first | refine blk_drewN ?_ _ | refine blk_drew ?_ | refine blk_alloc ?_ _)); exact BK217.out⟩, ⟨by repeat (first | (with_reducible first | exact HB.out | apply below_alloc | apply pw_below_drewN | apply below_drew1 | refine below_set ?_ GE216.out | refine below_set ?_ GE217.out) | exact HB.out)⟩⟩
    · rw [if_neg c6] at H
      have c6b0 : (a0_3 == a1_3) = false := beq_eq_false_iff_ne.mpr c6
      have c6b1 : (a0_3 != a1_3) = true := bne_iff_ne.mpr c6
      (first | rw [c6b0] | (simp only [i64_w, i32_w]; rw [c6b0]) | skip)
      have H' := Aside0.mk H
      clear H
      have hnb18 := NB216_217.out
      have hnc18 := NB217_216.out
      have hcz19_0 : w5.cell? ⟨gb216, 0, none⟩ = some (.slice A0_0 l0_0.length c0_0) := (blk_cell BK216.out 0).trans rfl
      have hcz19_1 : w5.cell? ⟨gb216, 1, none⟩ = some (.slice A0_1 l0_1.length c0_1) := (blk_cell BK216.out 1).trans rfl
      have hcz19_2 : w5.cell? ⟨gb216, 2, none⟩ = some (.int .i64 a0_2) := (blk_cell BK216.out 2).trans rfl
      have hcz19_3 : w5.cell? ⟨gb216, 3, none⟩ = some (.int .i64 a0_3) := (blk_cell BK216.out 3).trans rfl
      have hfz19_0 := blk_frozen BK216.out 0
      have hfz19_1 := blk_frozen BK216.out 1
      have hfz19_2 := blk_frozen BK216.out 2
      have hfz19_3 := blk_frozen BK216.out 3
      have hcz20_0 : w5.cell? ⟨gb217, 0, none⟩ = some (.slice A1_0 l1_0.length c1_0) := (blk_cell BK217.out 0).trans rfl
      have hcz20_1 : w5.cell? ⟨gb217, 1, none⟩ = some (.slice A1_1 l1_1.length c1_1) := (blk_cell BK217.out 1).trans rfl
      have hcz20_2 : w5.cell? ⟨gb217, 2, none⟩ = some (.int .i64 a1_2) := (blk_cell BK217.out 2).trans rfl
      have hcz20_3 : w5.cell? ⟨gb217, 3, none⟩ = some (.int .i64 a1_3) := (blk_cell BK217.out 3).trans rfl
      have hfz20_0 := blk_frozen BK217.out 0
      have hfz20_1 := blk_frozen BK217.out 1
      have hfz20_2 := blk_frozen BK217.out 2
      have hfz20_3 := blk_frozen BK217.out 3
      go_wp2
      repeat (go_quiet (fail); try go_wp2)
      go_meet
      case rel => exact ⟨_, (true), (by first | rfl | (simp; done) | (simp [*]; done)), H', ⟨by first | omega | exact Nat.le_refl _⟩, ⟨by (with_reducible repeat (first | refine blk_drewN ?_ _ | refine blk_drew ?_ | refine blk_alloc ?_ _)); exact BK216.out⟩, ⟨by (with_reducible repeat (first | refine blk_drewN ?_ _ | refine blk_drew ?_ | refine blk_alloc ?_ _)); exact BK217.out⟩, ⟨by repeat (first | (with_reducible first | exact HB.out | apply below_alloc | apply pw_below_drewN | apply below_drew1 | refine below_set ?_ GE216.out | refine below_set ?_ GE217.out) | exact HB.out)⟩⟩
  case rest =>
    clear HC3
    try clear c1
    try clear p2
    try clear c6
    try clear c6b0
    try clear c6b1
    try clear c7
    try clear c7b0
    try clear c7b1
    try clear c8
    try clear c8b0
    try clear c8b1
    try clear c8b2
    try clear c9
    try clear c12
    try clear c14
    try clear c15
    try clear c18
    try clear hcz10_0
    try clear hcz10_1
    try clear hcz10_2
    try clear hcz10_3
    try clear hcz11_0
    try clear hcz11_1
    try clear hcz11_2
    try clear hcz11_3
    try clear hcz13_0
    try clear hcz13_1
    try clear hcz13_2
    try clear hcz13_3
    try clear hcz14_0
    try clear hcz14_1
    try clear hcz14_2
    try clear hcz14_3
    try clear hcz16_0
    try clear hcz16_1
    try clear hcz16_2
    try clear hcz16_3
    try clear hcz17_0
    try clear hcz17_1
    try clear hcz17_2
    try clear hcz17_3
    try clear hcz19_0
    try clear hcz19_1
    try clear hcz19_2
    try clear hcz19_3
    try clear hcz20_0
    try clear hcz20_1
    try clear hcz20_2
    try clear hcz20_3
    try clear hfz10_0
    try clear hfz10_1
    try clear hfz10_2
    try clear hfz10_3
    try clear hfz11_0
    try clear hfz11_1
    try clear hfz11_2
    try clear hfz11_3
    try clear hfz13_0
    try clear hfz13_1
    try clear hfz13_2
    try clear hfz13_3
    try clear hfz14_0
    try clear hfz14_1
    try clear hfz14_2
    try clear hfz14_3
    try clear hfz16_0
    try clear hfz16_1
    try clear hfz16_2
    try clear hfz16_3
    try clear hfz17_0
    try clear hfz17_1
    try clear hfz17_2
    try clear hfz17_3
    try clear hfz19_0
    try clear hfz19_1
    try clear hfz19_2
    try clear hfz19_3
    try clear hfz20_0
    try clear hfz20_1
    try clear hfz20_2
    try clear hfz20_3
    obtain ⟨kq, x36_2, rfl, HA, HJ2, BK216, BK217, HB⟩ := hcut
    cases kq with
    | zero => exact absurd HA.out (by simp [palingslaw18_same.j0])
    | succ kj2 =>
      have H := HA.out
      clear HA
      simp only [palingslaw18_same.j0] at H
      by_cases c21 : x36_2 = true
      · subst c21
        have H1 : (some false) = some r := by rw [if_pos rfl] at H; exact H
        clear H
        have H := H1
        clear H1
        obtain rfl := Option.some.inj H
        go_wp2
        repeat (go_quiet (fail); try go_wp2)
        go_ret
        exact ⟨by first | rfl | (simp [errW_none, errW_some] <;> rfl) | (simp [*, errW_none, errW_some] <;> rfl), by repeat (first | (with_reducible first | exact HB.out | apply below_alloc | apply pw_below_drewN | apply below_drew1 | refine below_set ?_ GE216.out | refine below_set ?_ GE217.out) | exact HB.out)⟩
      · replace c21 := Bool.eq_false_iff.mpr c21
        subst c21
        have H1 : (palingslaw18_same.l0 kj2 (l0_0.length : Int) 0 l0_0 l0_1 a0_2 a0_3 l1_0 l1_1 a1_2 a1_3) = some r := by rw [if_neg (show ¬ (false = true) by decide)] at H; exact H
        clear H
        have H := H1
        clear H1
        have H' := Aside0.mk H
        clear H
        have hnb22 := NB216_217.out
        have hnc22 := NB217_216.out
        have hcz23_0 : wc.cell? ⟨gb216, 0, none⟩ = some (.slice A0_0 l0_0.length c0_0) := (blk_cell BK216.out 0).trans rfl
        have hcz23_1 : wc.cell? ⟨gb216, 1, none⟩ = some (.slice A0_1 l0_1.length c0_1) := (blk_cell BK216.out 1).trans rfl
        have hcz23_2 : wc.cell? ⟨gb216, 2, none⟩ = some (.int .i64 a0_2) := (blk_cell BK216.out 2).trans rfl
        have hcz23_3 : wc.cell? ⟨gb216, 3, none⟩ = some (.int .i64 a0_3) := (blk_cell BK216.out 3).trans rfl
        have hfz23_0 := blk_frozen BK216.out 0
        have hfz23_1 := blk_frozen BK216.out 1
        have hfz23_2 := blk_frozen BK216.out 2
        have hfz23_3 := blk_frozen BK216.out 3
        go_wp2
        repeat (go_quiet (fail); try go_wp2)
        go_loopg [40] kj2 (fun kq v40 w' => ∃ (x40_2 : Int), v40 = .int .i64 x40_2 ∧ Aside0 (palingslaw18_same.l0 kq (l0_0.length : Int) x40_2 l0_0 l0_1 a0_2 a0_3 l1_0 l1_1 a1_2 a1_3 = some r) ∧ Aside0 (kq ≤ kj2) ∧ Aside0 (w'.heap[gb216]? = some (.cells #[(.slice A0_0 l0_0.length c0_0), (.slice A0_1 l0_1.length c0_1), .int .i64 a0_2, .int .i64 a0_3] 30 (0, 0))) ∧ Aside0 (w'.heap[gb217]? = some (.cells #[(.slice A1_0 l1_0.length c1_0), (.slice A1_1 l1_1.length c1_1), .int .i64 a1_2, .int .i64 a1_3] 30 (0, 0))) ∧ Aside0 (Below w.heap.size w w'))
        case atStart => exact ⟨(0), (by first | rfl | (simp; done) | (simp [*]; done)), H', ⟨Nat.le_refl _⟩, ⟨by (with_reducible repeat (first | refine blk_drewN ?_ _ | refine blk_drew ?_ | refine blk_alloc ?_ _)); exact BK216.out⟩, ⟨by (with_reducible repeat (first | refine blk_drewN ?_ _ | refine blk_drew ?_ | refine blk_alloc ?_ _)); exact BK217.out⟩, ⟨by repeat (first | (with_reducible first | exact HB.out | apply below_alloc | apply pw_below_drewN | apply below_drew1 | refine below_set ?_ GE216.out | refine below_set ?_ GE217.out) | exact HB.out)⟩⟩
        case round =>
          clear H'
          try clear c1
          try clear c2
          try clear p2
          try clear c6
          try clear c6b0
          try clear c6b1
          try clear c7
          try clear c7b0
          try clear c7b1
          try clear c8
          try clear c8b0
          try clear c8b1
          try clear c8b2
          try clear c9
          try clear c12
          try clear c14
          try clear c15
          try clear c18
          try clear c21
          try clear c22
          try clear hcz10_0
          try clear hcz10_1
          try clear hcz10_2
          try clear hcz10_3
          try clear hcz11_0
          try clear hcz11_1
          try clear hcz11_2
          try clear hcz11_3
          try clear hcz13_0
          try clear hcz13_1
          try clear hcz13_2
          try clear hcz13_3
          try clear hcz14_0
          try clear hcz14_1
          try clear hcz14_2
          try clear hcz14_3
          try clear hcz16_0
          try clear hcz16_1
          try clear hcz16_2
          try clear hcz16_3
          try clear hcz17_0
          try clear hcz17_1
          try clear hcz17_2
          try clear hcz17_3
          try clear hcz19_0
          try clear hcz19_1
          try clear hcz19_2
          try clear hcz19_3
          try clear hcz20_0
          try clear hcz20_1
          try clear hcz20_2
          try clear hcz20_3
          try clear hcz23_0
          try clear hcz23_1
          try clear hcz23_2
          try clear hcz23_3
          try clear hfz10_0
          try clear hfz10_1
          try clear hfz10_2
          try clear hfz10_3
          try clear hfz11_0
          try clear hfz11_1
          try clear hfz11_2
          try clear hfz11_3
          try clear hfz13_0
          try clear hfz13_1
          try clear hfz13_2
          try clear hfz13_3
          try clear hfz14_0
          try clear hfz14_1
          try clear hfz14_2
          try clear hfz14_3
          try clear hfz16_0
          try clear hfz16_1
          try clear hfz16_2
          try clear hfz16_3
          try clear hfz17_0
          try clear hfz17_1
          try clear hfz17_2
          try clear hfz17_3
          try clear hfz19_0
          try clear hfz19_1
          try clear hfz19_2
          try clear hfz19_3
          try clear hfz20_0
          try clear hfz20_1
          try clear hfz20_2
          try clear hfz20_3
          try clear hfz23_0
          try clear hfz23_1
          try clear hfz23_2
          try clear hfz23_3
          try clear p2
          obtain ⟨x40_2, rfl, HA, HK2, BK216, BK217, HB⟩ := hrel
          cases gk with
          | zero => exact absurd HA.out (by simp [palingslaw18_same.l0])
          | succ k2 =>
            have H := HA.out
            clear HA
            simp only [palingslaw18_same.l0] at H
            by_cases c24 : x40_2 < (l0_0.length : Int)
            · rw [if_pos c24] at H
              have c24b0 : decide (x40_2 < (l0_0.length : Int)) = true := decide_eq_true c24
              clear c24
              by_cases c25 : 0 ≤ x40_2
              · rw [if_pos c25] at H
                have c25b0 : decide (0 ≤ x40_2) = true := decide_eq_true c25
                clear c25
                by_cases c26 : x40_2 < (l0_0.length : Int)
                · rw [if_pos c26] at H
                  have c26b0 : decide (x40_2 < (l0_0.length : Int)) = true := decide_eq_true c26
                  clear c26
                  by_cases c27 : x40_2 < (l1_0.length : Int)
                  · rw [if_pos c27] at H
                    have c27b0 : decide (x40_2 < (l1_0.length : Int)) = true := decide_eq_true c27
                    clear c27
                    by_cases c28 : (!(((rd_T26 l0_0 x40_2).f0) == ((rd_T26 l1_0 x40_2).f0)) || (!(((rd_T26 l0_0 x40_2).f1) == ((rd_T26 l1_0 x40_2).f1)) || (!(((rd_T26 l0_0 x40_2).f2) == ((rd_T26 l1_0 x40_2).f2)) || (!(((rd_T26 l0_0 x40_2).f3) == ((rd_T26 l1_0 x40_2).f3)) || (!(((rd_T26 l0_0 x40_2).f4) == ((rd_T26 l1_0 x40_2).f4)) || (!(((rd_T26 l0_0 x40_2).f5) == ((rd_T26 l1_0 x40_2).f5)))))))) = true
                    · rw [if_pos c28] at H
                      have c28b0 : (!(((rd_T26 l0_0 x40_2).f0) == ((rd_T26 l1_0 x40_2).f0)) || (!(((rd_T26 l0_0 x40_2).f1) == ((rd_T26 l1_0 x40_2).f1)) || (!(((rd_T26 l0_0 x40_2).f2) == ((rd_T26 l1_0 x40_2).f2)) || (!(((rd_T26 l0_0 x40_2).f3) == ((rd_T26 l1_0 x40_2).f3)) || (!(((rd_T26 l0_0 x40_2).f4) == ((rd_T26 l1_0 x40_2).f4)) || (!(((rd_T26 l0_0 x40_2).f5) == ((rd_T26 l1_0 x40_2).f5)))))))) = true := c28
                      clear c28
                      obtain rfl := Option.some.inj H
                      have hnb29 := NB216_217.out
                      have hnc29 := NB217_216.out
                      have hcz30_0 : wr.cell? ⟨gb216, 0, none⟩ = some (.slice A0_0 l0_0.length c0_0) := (blk_cell BK216.out 0).trans rfl
                      have hcz30_1 : wr.cell? ⟨gb216, 1, none⟩ = some (.slice A0_1 l0_1.length c0_1) := (blk_cell BK216.out 1).trans rfl
                      have hcz30_2 : wr.cell? ⟨gb216, 2, none⟩ = some (.int .i64 a0_2) := (blk_cell BK216.out 2).trans rfl
                      have hcz30_3 : wr.cell? ⟨gb216, 3, none⟩ = some (.int .i64 a0_3) := (blk_cell BK216.out 3).trans rfl
                      have hfz30_0 := blk_frozen BK216.out 0
                      have hfz30_1 := blk_frozen BK216.out 1
                      have hfz30_2 := blk_frozen BK216.out 2
                      have hfz30_3 := blk_frozen BK216.out 3
                      have p218 : 0 ≤ (x40_2 : Int) := of_decide_eq_true (by first | (with_reducible assumption) | assumption)
                      have q218 : x40_2 < (l0_0.length : Int) := of_decide_eq_true (by first | (with_reducible assumption) | assumption)
                      obtain ⟨ad218, e218, hx218_0, hx218_1, hx218_2, hx218_3, hx218_4, hx218_5⟩ := at_T26 HR0_0.out x40_2 p218 q218
                      cases e218
                      replace hx218_0 := (HB.out.cell (World.block_lt_of_cell? w _ hx218_0)).trans hx218_0
                      replace hx218_1 := (HB.out.cell (World.block_lt_of_cell? w _ hx218_1)).trans hx218_1
                      replace hx218_2 := (HB.out.cell (World.block_lt_of_cell? w _ hx218_2)).trans hx218_2
                      replace hx218_3 := (HB.out.cell (World.block_lt_of_cell? w _ hx218_3)).trans hx218_3
                      replace hx218_4 := (HB.out.cell (World.block_lt_of_cell? w _ hx218_4)).trans hx218_4
                      replace hx218_5 := (HB.out.cell (World.block_lt_of_cell? w _ hx218_5)).trans hx218_5
                      replace p218 := eq_true p218
                      replace q218 := eq_true q218
                      have hcz31_0 : wr.cell? ⟨gb217, 0, none⟩ = some (.slice A1_0 l1_0.length c1_0) := (blk_cell BK217.out 0).trans rfl
                      have hcz31_1 : wr.cell? ⟨gb217, 1, none⟩ = some (.slice A1_1 l1_1.length c1_1) := (blk_cell BK217.out 1).trans rfl
                      have hcz31_2 : wr.cell? ⟨gb217, 2, none⟩ = some (.int .i64 a1_2) := (blk_cell BK217.out 2).trans rfl
                      have hcz31_3 : wr.cell? ⟨gb217, 3, none⟩ = some (.int .i64 a1_3) := (blk_cell BK217.out 3).trans rfl
                      have hfz31_0 := blk_frozen BK217.out 0
                      have hfz31_1 := blk_frozen BK217.out 1
                      have hfz31_2 := blk_frozen BK217.out 2
                      have hfz31_3 := blk_frozen BK217.out 3
                      have p219 : 0 ≤ (x40_2 : Int) := of_decide_eq_true (by first | (with_reducible assumption) | assumption)
                      have q219 : x40_2 < (l1_0.length : Int) := of_decide_eq_true (by first | (with_reducible assumption) | assumption)
                      obtain ⟨ad219, e219, hx219_0, hx219_1, hx219_2, hx219_3, hx219_4, hx219_5⟩ := at_T26 HR1_0.out x40_2 p219 q219
                      cases e219
                      replace hx219_0 := (HB.out.cell (World.block_lt_of_cell? w _ hx219_0)).trans hx219_0
                      replace hx219_1 := (HB.out.cell (World.block_lt_of_cell? w _ hx219_1)).trans hx219_1
                      replace hx219_2 := (HB.out.cell (World.block_lt_of_cell? w _ hx219_2)).trans hx219_2
                      replace hx219_3 := (HB.out.cell (World.block_lt_of_cell? w _ hx219_3)).trans hx219_3
                      replace hx219_4 := (HB.out.cell (World.block_lt_of_cell? w _ hx219_4)).trans hx219_4
                      replace hx219_5 := (HB.out.cell (World.block_lt_of_cell? w _ hx219_5)).trans hx219_5
                      replace p219 := eq_true p219
                      replace q219 := eq_true q219
                      go_wp2
                      repeat (go_quiet (fail); try go_wp2)
                      go_ret
                      exact ⟨by first | rfl | (simp [errW_none, errW_some] <;> rfl) | (simp [*, errW_none, errW_some] <;> rfl), by repeat (first | (with_reducible first | exact HB.out | apply below_alloc | apply pw_below_drewN | apply below_drew1 | refine below_set ?_ GE216.out | refine below_set ?_ GE217.out) | exact HB.out)⟩
                    · rw [if_neg c28] at H
                      have c28b0 : (!(((rd_T26 l0_0 x40_2).f0) == ((rd_T26 l1_0 x40_2).f0)) || (!(((rd_T26 l0_0 x40_2).f1) == ((rd_T26 l1_0 x40_2).f1)) || (!(((rd_T26 l0_0 x40_2).f2) == ((rd_T26 l1_0 x40_2).f2)) || (!(((rd_T26 l0_0 x40_2).f3) == ((rd_T26 l1_0 x40_2).f3)) || (!(((rd_T26 l0_0 x40_2).f4) == ((rd_T26 l1_0 x40_2).f4)) || (!(((rd_T26 l0_0 x40_2).f5) == ((rd_T26 l1_0 x40_2).f5)))))))) = false := by simpa using c28
                      clear c28
                      have H' := Aside0.mk H
                      clear H
                      have hnb32 := NB216_217.out
                      have hnc32 := NB217_216.out
                      have hcz33_0 : wr.cell? ⟨gb216, 0, none⟩ = some (.slice A0_0 l0_0.length c0_0) := (blk_cell BK216.out 0).trans rfl
                      have hcz33_1 : wr.cell? ⟨gb216, 1, none⟩ = some (.slice A0_1 l0_1.length c0_1) := (blk_cell BK216.out 1).trans rfl
                      have hcz33_2 : wr.cell? ⟨gb216, 2, none⟩ = some (.int .i64 a0_2) := (blk_cell BK216.out 2).trans rfl
                      have hcz33_3 : wr.cell? ⟨gb216, 3, none⟩ = some (.int .i64 a0_3) := (blk_cell BK216.out 3).trans rfl
                      have hfz33_0 := blk_frozen BK216.out 0
                      have hfz33_1 := blk_frozen BK216.out 1
                      have hfz33_2 := blk_frozen BK216.out 2
                      have hfz33_3 := blk_frozen BK216.out 3
                      have p218 : 0 ≤ (x40_2 : Int) := of_decide_eq_true (by first | (with_reducible assumption) | assumption)
                      have q218 : x40_2 < (l0_0.length : Int) := of_decide_eq_true (by first | (with_reducible assumption) | assumption)
                      obtain ⟨ad218, e218, hx218_0, hx218_1, hx218_2, hx218_3, hx218_4, hx218_5⟩ := at_T26 HR0_0.out x40_2 p218 q218
                      cases e218
                      replace hx218_0 := (HB.out.cell (World.block_lt_of_cell? w _ hx218_0)).trans hx218_0
                      replace hx218_1 := (HB.out.cell (World.block_lt_of_cell? w _ hx218_1)).trans hx218_1
                      replace hx218_2 := (HB.out.cell (World.block_lt_of_cell? w _ hx218_2)).trans hx218_2
                      replace hx218_3 := (HB.out.cell (World.block_lt_of_cell? w _ hx218_3)).trans hx218_3
                      replace hx218_4 := (HB.out.cell (World.block_lt_of_cell? w _ hx218_4)).trans hx218_4
                      replace hx218_5 := (HB.out.cell (World.block_lt_of_cell? w _ hx218_5)).trans hx218_5
                      replace p218 := eq_true p218
                      replace q218 := eq_true q218
                      have hcz34_0 : wr.cell? ⟨gb217, 0, none⟩ = some (.slice A1_0 l1_0.length c1_0) := (blk_cell BK217.out 0).trans rfl
                      have hcz34_1 : wr.cell? ⟨gb217, 1, none⟩ = some (.slice A1_1 l1_1.length c1_1) := (blk_cell BK217.out 1).trans rfl
                      have hcz34_2 : wr.cell? ⟨gb217, 2, none⟩ = some (.int .i64 a1_2) := (blk_cell BK217.out 2).trans rfl
                      have hcz34_3 : wr.cell? ⟨gb217, 3, none⟩ = some (.int .i64 a1_3) := (blk_cell BK217.out 3).trans rfl
                      have hfz34_0 := blk_frozen BK217.out 0
                      have hfz34_1 := blk_frozen BK217.out 1
                      have hfz34_2 := blk_frozen BK217.out 2
                      have hfz34_3 := blk_frozen BK217.out 3
                      have p219 : 0 ≤ (x40_2 : Int) := of_decide_eq_true (by first | (with_reducible assumption) | assumption)
                      have q219 : x40_2 < (l1_0.length : Int) := of_decide_eq_true (by first | (with_reducible assumption) | assumption)
                      obtain ⟨ad219, e219, hx219_0, hx219_1, hx219_2, hx219_3, hx219_4, hx219_5⟩ := at_T26 HR1_0.out x40_2 p219 q219
                      cases e219
                      replace hx219_0 := (HB.out.cell (World.block_lt_of_cell? w _ hx219_0)).trans hx219_0
                      replace hx219_1 := (HB.out.cell (World.block_lt_of_cell? w _ hx219_1)).trans hx219_1
                      replace hx219_2 := (HB.out.cell (World.block_lt_of_cell? w _ hx219_2)).trans hx219_2
                      replace hx219_3 := (HB.out.cell (World.block_lt_of_cell? w _ hx219_3)).trans hx219_3
                      replace hx219_4 := (HB.out.cell (World.block_lt_of_cell? w _ hx219_4)).trans hx219_4
                      replace hx219_5 := (HB.out.cell (World.block_lt_of_cell? w _ hx219_5)).trans hx219_5
                      replace p219 := eq_true p219
                      replace q219 := eq_true q219
                      go_wp2
                      repeat (go_quiet (fail); try go_wp2)
                      go_roundg k2
                      case measure => have := HJ2.out; have := HK2.out; omega
                      case rel => exact ⟨(wrap64 (x40_2 + 1)), (by first | rfl | (simp; done) | (simp [*]; done)), H', ⟨by have := HJ2.out; have := HK2.out; omega⟩, ⟨by (with_reducible repeat (first | refine blk_drewN ?_ _ | refine blk_drew ?_ | refine blk_alloc ?_ _)); exact BK216.out⟩, ⟨by (with_reducible repeat (first | refine blk_drewN ?_ _ | refine blk_drew ?_ | refine blk_alloc ?_ _)); exact BK217.out⟩, ⟨by repeat (first | (with_reducible first | exact HB.out | apply below_alloc | apply pw_below_drewN | apply below_drew1 | refine below_set ?_ GE216.out | refine below_set ?_ GE217.out) | exact HB.out)⟩⟩
                  · rw [if_neg c27] at H
                    exact absurd H (by simp)
                · rw [if_neg c26] at H
                  exact absurd H (by simp)
              · rw [if_neg c25] at H
                exact absurd H (by simp)
            · rw [if_neg c24] at H
              have c24b0 : decide (x40_2 < (l0_0.length : Int)) = false := decide_eq_false c24
              clear c24
              have H' := Aside0.mk H
              clear H
              have hnb35 := NB216_217.out
              have hnc35 := NB217_216.out
              have hcz36_0 : wr.cell? ⟨gb216, 0, none⟩ = some (.slice A0_0 l0_0.length c0_0) := (blk_cell BK216.out 0).trans rfl
              have hcz36_1 : wr.cell? ⟨gb216, 1, none⟩ = some (.slice A0_1 l0_1.length c0_1) := (blk_cell BK216.out 1).trans rfl
              have hcz36_2 : wr.cell? ⟨gb216, 2, none⟩ = some (.int .i64 a0_2) := (blk_cell BK216.out 2).trans rfl
              have hcz36_3 : wr.cell? ⟨gb216, 3, none⟩ = some (.int .i64 a0_3) := (blk_cell BK216.out 3).trans rfl
              have hfz36_0 := blk_frozen BK216.out 0
              have hfz36_1 := blk_frozen BK216.out 1
              have hfz36_2 := blk_frozen BK216.out 2
              have hfz36_3 := blk_frozen BK216.out 3
              go_wp2
              repeat (go_quiet (fail); try go_wp2)
              go_loopg [58] k2 (fun kq v58 w' => ∃ (x58_3 : Int), v58 = .int .i64 x58_3 ∧ Aside0 (palingslaw18_same.l1 kq (l0_1.length : Int) x58_3 l0_0 l0_1 a0_2 a0_3 l1_0 l1_1 a1_2 a1_3 = some r) ∧ Aside0 (kq ≤ k2) ∧ Aside0 (w'.heap[gb216]? = some (.cells #[(.slice A0_0 l0_0.length c0_0), (.slice A0_1 l0_1.length c0_1), .int .i64 a0_2, .int .i64 a0_3] 30 (0, 0))) ∧ Aside0 (w'.heap[gb217]? = some (.cells #[(.slice A1_0 l1_0.length c1_0), (.slice A1_1 l1_1.length c1_1), .int .i64 a1_2, .int .i64 a1_3] 30 (0, 0))) ∧ Aside0 (Below w.heap.size w w'))
              case atStart => exact ⟨(0), (by first | rfl | (simp; done) | (simp [*]; done)), H', ⟨Nat.le_refl _⟩, ⟨by (with_reducible repeat (first | refine blk_drewN ?_ _ | refine blk_drew ?_ | refine blk_alloc ?_ _)); exact BK216.out⟩, ⟨by (with_reducible repeat (first | refine blk_drewN ?_ _ | refine blk_drew ?_ | refine blk_alloc ?_ _)); exact BK217.out⟩, ⟨by repeat (first | (with_reducible first | exact HB.out | apply below_alloc | apply pw_below_drewN | apply below_drew1 | refine below_set ?_ GE216.out | refine below_set ?_ GE217.out) | exact HB.out)⟩⟩
              case round =>
                clear H'
                try clear c1
                try clear c2
                try clear p2
                try clear q2
                try clear hx2
                try clear c3
                try clear c6
                try clear c6b0
                try clear c6b1
                try clear p6
                try clear c7
                try clear c7b0
                try clear c7b1
                try clear c8
                try clear c8b0
                try clear c8b1
                try clear c8b2
                try clear c9
                try clear c12
                try clear c14
                try clear c15
                try clear c18
                try clear c21
                try clear p21
                try clear q21
                try clear hx21
                try clear c22
                try clear c24
                try clear c24b0
                try clear c25
                try clear c25b0
                try clear c26
                try clear c26b0
                try clear c27
                try clear c27b0
                try clear c28
                try clear c28b0
                try clear c29
                try clear c32
                try clear c35
                try clear hcz10_0
                try clear hcz10_1
                try clear hcz10_2
                try clear hcz10_3
                try clear hcz11_0
                try clear hcz11_1
                try clear hcz11_2
                try clear hcz11_3
                try clear hcz13_0
                try clear hcz13_1
                try clear hcz13_2
                try clear hcz13_3
                try clear hcz14_0
                try clear hcz14_1
                try clear hcz14_2
                try clear hcz14_3
                try clear hcz16_0
                try clear hcz16_1
                try clear hcz16_2
                try clear hcz16_3
                try clear hcz17_0
                try clear hcz17_1
                try clear hcz17_2
                try clear hcz17_3
                try clear hcz19_0
                try clear hcz19_1
                try clear hcz19_2
                try clear hcz19_3
                try clear hcz20_0
                try clear hcz20_1
                try clear hcz20_2
                try clear hcz20_3
                try clear hcz23_0
                try clear hcz23_1
                try clear hcz23_2
                try clear hcz23_3
                try clear hcz30_0
                try clear hcz30_1
                try clear hcz30_2
                try clear hcz30_3
                try clear hcz31_0
                try clear hcz31_1
                try clear hcz31_2
                try clear hcz31_3
                try clear hcz33_0
                try clear hcz33_1
                try clear hcz33_2
                try clear hcz33_3
                try clear hcz34_0
                try clear hcz34_1
                try clear hcz34_2
                try clear hcz34_3
                try clear hcz36_0
                try clear hcz36_1
                try clear hcz36_2
                try clear hcz36_3
                try clear hfz10_0
                try clear hfz10_1
                try clear hfz10_2
                try clear hfz10_3
                try clear hfz11_0
                try clear hfz11_1
                try clear hfz11_2
                try clear hfz11_3
                try clear hfz13_0
                try clear hfz13_1
                try clear hfz13_2
                try clear hfz13_3
                try clear hfz14_0
                try clear hfz14_1
                try clear hfz14_2
                try clear hfz14_3
                try clear hfz16_0
                try clear hfz16_1
                try clear hfz16_2
                try clear hfz16_3
                try clear hfz17_0
                try clear hfz17_1
                try clear hfz17_2
                try clear hfz17_3
                try clear hfz19_0
                try clear hfz19_1
                try clear hfz19_2
                try clear hfz19_3
                try clear hfz20_0
                try clear hfz20_1
                try clear hfz20_2
                try clear hfz20_3
                try clear hfz23_0
                try clear hfz23_1
                try clear hfz23_2
                try clear hfz23_3
                try clear hfz30_0
                try clear hfz30_1
                try clear hfz30_2
                try clear hfz30_3
                try clear hfz31_0
                try clear hfz31_1
                try clear hfz31_2
                try clear hfz31_3
                try clear hfz33_0
                try clear hfz33_1
                try clear hfz33_2
                try clear hfz33_3
                try clear hfz34_0
                try clear hfz34_1
                try clear hfz34_2
                try clear hfz34_3
                try clear hfz36_0
                try clear hfz36_1
                try clear hfz36_2
                try clear hfz36_3
                try clear hx218_0
                try clear hx218_1
                try clear hx218_2
                try clear hx218_3
                try clear hx218_4
                try clear hx218_5
                try clear hx219_0
                try clear hx219_1
                try clear hx219_2
                try clear hx219_3
                try clear hx219_4
                try clear hx219_5
                try clear p2
                try clear p218
                try clear p219
                try clear q218
                try clear q219
                obtain ⟨x58_3, rfl, HA, HK3, BK216, BK217, HB⟩ := hrel
                cases gk with
                | zero => exact absurd HA.out (by simp [palingslaw18_same.l1])
                | succ k3 =>
                  have H := HA.out
                  clear HA
                  simp only [palingslaw18_same.l1] at H
                  by_cases c37 : x58_3 < (l0_1.length : Int)
                  · rw [if_pos c37] at H
                    have c37b0 : decide (x58_3 < (l0_1.length : Int)) = true := decide_eq_true c37
                    clear c37
                    by_cases c38 : 0 ≤ x58_3
                    · rw [if_pos c38] at H
                      have c38b0 : decide (0 ≤ x58_3) = true := decide_eq_true c38
                      clear c38
                      by_cases c39 : x58_3 < (l0_1.length : Int)
                      · rw [if_pos c39] at H
                        have c39b0 : decide (x58_3 < (l0_1.length : Int)) = true := decide_eq_true c39
                        clear c39
                        by_cases c40 : x58_3 < (l1_1.length : Int)
                        · rw [if_pos c40] at H
                          have c40b0 : decide (x58_3 < (l1_1.length : Int)) = true := decide_eq_true c40
                          clear c40
                          by_cases c41 : (!(((rd_T33 l0_1 x58_3).f0) == ((rd_T33 l1_1 x58_3).f0)) || (!(((rd_T33 l0_1 x58_3).f1) == ((rd_T33 l1_1 x58_3).f1)) || (!(((rd_T33 l0_1 x58_3).f2) == ((rd_T33 l1_1 x58_3).f2))))) = true
                          · rw [if_pos c41] at H
                            have c41b0 : (!(((rd_T33 l0_1 x58_3).f0) == ((rd_T33 l1_1 x58_3).f0)) || (!(((rd_T33 l0_1 x58_3).f1) == ((rd_T33 l1_1 x58_3).f1)) || (!(((rd_T33 l0_1 x58_3).f2) == ((rd_T33 l1_1 x58_3).f2))))) = true := c41
                            clear c41
                            obtain rfl := Option.some.inj H
                            have hnb42 := NB216_217.out
                            have hnc42 := NB217_216.out
                            have hcz43_0 : wr.cell? ⟨gb216, 0, none⟩ = some (.slice A0_0 l0_0.length c0_0) := (blk_cell BK216.out 0).trans rfl
                            have hcz43_1 : wr.cell? ⟨gb216, 1, none⟩ = some (.slice A0_1 l0_1.length c0_1) := (blk_cell BK216.out 1).trans rfl
                            have hcz43_2 : wr.cell? ⟨gb216, 2, none⟩ = some (.int .i64 a0_2) := (blk_cell BK216.out 2).trans rfl
                            have hcz43_3 : wr.cell? ⟨gb216, 3, none⟩ = some (.int .i64 a0_3) := (blk_cell BK216.out 3).trans rfl
                            have hfz43_0 := blk_frozen BK216.out 0
                            have hfz43_1 := blk_frozen BK216.out 1
                            have hfz43_2 := blk_frozen BK216.out 2
                            have hfz43_3 := blk_frozen BK216.out 3
                            have p220 : 0 ≤ (x58_3 : Int) := of_decide_eq_true (by first | (with_reducible assumption) | assumption)
                            have q220 : x58_3 < (l0_1.length : Int) := of_decide_eq_true (by first | (with_reducible assumption) | assumption)
                            obtain ⟨ad220, e220, hx220_0, hx220_1, hx220_2⟩ := at_T33 HR0_1.out x58_3 p220 q220
                            cases e220
                            replace hx220_0 := (HB.out.cell (World.block_lt_of_cell? w _ hx220_0)).trans hx220_0
                            replace hx220_1 := (HB.out.cell (World.block_lt_of_cell? w _ hx220_1)).trans hx220_1
                            replace hx220_2 := (HB.out.cell (World.block_lt_of_cell? w _ hx220_2)).trans hx220_2
                            replace p220 := eq_true p220
                            replace q220 := eq_true q220
                            have hcz44_0 : wr.cell? ⟨gb217, 0, none⟩ = some (.slice A1_0 l1_0.length c1_0) := (blk_cell BK217.out 0).trans rfl
                            have hcz44_1 : wr.cell? ⟨gb217, 1, none⟩ = some (.slice A1_1 l1_1.length c1_1) := (blk_cell BK217.out 1).trans rfl
                            have hcz44_2 : wr.cell? ⟨gb217, 2, none⟩ = some (.int .i64 a1_2) := (blk_cell BK217.out 2).trans rfl
                            have hcz44_3 : wr.cell? ⟨gb217, 3, none⟩ = some (.int .i64 a1_3) := (blk_cell BK217.out 3).trans rfl
                            have hfz44_0 := blk_frozen BK217.out 0
                            have hfz44_1 := blk_frozen BK217.out 1
                            have hfz44_2 := blk_frozen BK217.out 2
                            have hfz44_3 := blk_frozen BK217.out 3
                            have p221 : 0 ≤ (x58_3 : Int) := of_decide_eq_true (by first | (with_reducible assumption) | assumption)
                            have q221 : x58_3 < (l1_1.length : Int) := of_decide_eq_true (by first | (with_reducible assumption) | assumption)
                            obtain ⟨ad221, e221, hx221_0, hx221_1, hx221_2⟩ := at_T33 HR1_1.out x58_3 p221 q221
                            cases e221
                            replace hx221_0 := (HB.out.cell (World.block_lt_of_cell? w _ hx221_0)).trans hx221_0
                            replace hx221_1 := (HB.out.cell (World.block_lt_of_cell? w _ hx221_1)).trans hx221_1
                            replace hx221_2 := (HB.out.cell (World.block_lt_of_cell? w _ hx221_2)).trans hx221_2
                            replace p221 := eq_true p221
                            replace q221 := eq_true q221
                            go_wp2
                            repeat (go_quiet (fail); try go_wp2)
                            go_ret
                            exact ⟨by first | rfl | (simp [errW_none, errW_some] <;> rfl) | (simp [*, errW_none, errW_some] <;> rfl), by repeat (first | (with_reducible first | exact HB.out | apply below_alloc | apply pw_below_drewN | apply below_drew1 | refine below_set ?_ GE216.out | refine below_set ?_ GE217.out) | exact HB.out)⟩
                          · rw [if_neg c41] at H
                            have c41b0 : (!(((rd_T33 l0_1 x58_3).f0) == ((rd_T33 l1_1 x58_3).f0)) || (!(((rd_T33 l0_1 x58_3).f1) == ((rd_T33 l1_1 x58_3).f1)) || (!(((rd_T33 l0_1 x58_3).f2) == ((rd_T33 l1_1 x58_3).f2))))) = false := by simpa using c41
                            clear c41
                            have H' := Aside0.mk H
                            clear H
                            have hnb45 := NB216_217.out
                            have hnc45 := NB217_216.out
                            have hcz46_0 : wr.cell? ⟨gb216, 0, none⟩ = some (.slice A0_0 l0_0.length c0_0) := (blk_cell BK216.out 0).trans rfl
                            have hcz46_1 : wr.cell? ⟨gb216, 1, none⟩ = some (.slice A0_1 l0_1.length c0_1) := (blk_cell BK216.out 1).trans rfl
                            have hcz46_2 : wr.cell? ⟨gb216, 2, none⟩ = some (.int .i64 a0_2) := (blk_cell BK216.out 2).trans rfl
                            have hcz46_3 : wr.cell? ⟨gb216, 3, none⟩ = some (.int .i64 a0_3) := (blk_cell BK216.out 3).trans rfl
                            have hfz46_0 := blk_frozen BK216.out 0
                            have hfz46_1 := blk_frozen BK216.out 1
                            have hfz46_2 := blk_frozen BK216.out 2
                            have hfz46_3 := blk_frozen BK216.out 3
                            have p220 : 0 ≤ (x58_3 : Int) := of_decide_eq_true (by first | (with_reducible assumption) | assumption)
                            have q220 : x58_3 < (l0_1.length : Int) := of_decide_eq_true (by first | (with_reducible assumption) | assumption)
                            obtain ⟨ad220, e220, hx220_0, hx220_1, hx220_2⟩ := at_T33 HR0_1.out x58_3 p220 q220
                            cases e220
                            replace hx220_0 := (HB.out.cell (World.block_lt_of_cell? w _ hx220_0)).trans hx220_0
                            replace hx220_1 := (HB.out.cell (World.block_lt_of_cell? w _ hx220_1)).trans hx220_1
                            replace hx220_2 := (HB.out.cell (World.block_lt_of_cell? w _ hx220_2)).trans hx220_2
                            replace p220 := eq_true p220
                            replace q220 := eq_true q220
                            have hcz47_0 : wr.cell? ⟨gb217, 0, none⟩ = some (.slice A1_0 l1_0.length c1_0) := (blk_cell BK217.out 0).trans rfl
                            have hcz47_1 : wr.cell? ⟨gb217, 1, none⟩ = some (.slice A1_1 l1_1.length c1_1) := (blk_cell BK217.out 1).trans rfl
                            have hcz47_2 : wr.cell? ⟨gb217, 2, none⟩ = some (.int .i64 a1_2) := (blk_cell BK217.out 2).trans rfl
                            have hcz47_3 : wr.cell? ⟨gb217, 3, none⟩ = some (.int .i64 a1_3) := (blk_cell BK217.out 3).trans rfl
                            have hfz47_0 := blk_frozen BK217.out 0
                            have hfz47_1 := blk_frozen BK217.out 1
                            have hfz47_2 := blk_frozen BK217.out 2
                            have hfz47_3 := blk_frozen BK217.out 3
                            have p221 : 0 ≤ (x58_3 : Int) := of_decide_eq_true (by first | (with_reducible assumption) | assumption)
                            have q221 : x58_3 < (l1_1.length : Int) := of_decide_eq_true (by first | (with_reducible assumption) | assumption)
                            obtain ⟨ad221, e221, hx221_0, hx221_1, hx221_2⟩ := at_T33 HR1_1.out x58_3 p221 q221
                            cases e221
                            replace hx221_0 := (HB.out.cell (World.block_lt_of_cell? w _ hx221_0)).trans hx221_0
                            replace hx221_1 := (HB.out.cell (World.block_lt_of_cell? w _ hx221_1)).trans hx221_1
                            replace hx221_2 := (HB.out.cell (World.block_lt_of_cell? w _ hx221_2)).trans hx221_2
                            replace p221 := eq_true p221
                            replace q221 := eq_true q221
                            go_wp2
                            repeat (go_quiet (fail); try go_wp2)
                            go_roundg k3
                            case measure => have := HJ2.out; have := HK2.out; have := HK3.out; omega
                            case rel => exact ⟨(wrap64 (x58_3 + 1)), (by first | rfl | (simp; done) | (simp [*]; done)), H', ⟨by have := HJ2.out; have := HK2.out; have := HK3.out; omega⟩, ⟨by (with_reducible repeat (first | refine blk_drewN ?_ _ | refine blk_drew ?_ | refine blk_alloc ?_ _)); exact BK216.out⟩, ⟨by (with_reducible repeat (first | refine blk_drewN ?_ _ | refine blk_drew ?_ | refine blk_alloc ?_ _)); exact BK217.out⟩, ⟨by repeat (first | (with_reducible first | exact HB.out | apply below_alloc | apply pw_below_drewN | apply below_drew1 | refine below_set ?_ GE216.out | refine below_set ?_ GE217.out) | exact HB.out)⟩⟩
                        · rw [if_neg c40] at H
                          exact absurd H (by simp)
                      · rw [if_neg c39] at H
                        exact absurd H (by simp)
                    · rw [if_neg c38] at H
                      exact absurd H (by simp)
                  · rw [if_neg c37] at H
                    have c37b0 : decide (x58_3 < (l0_1.length : Int)) = false := decide_eq_false c37
                    clear c37
                    obtain rfl := Option.some.inj H
                    go_wp2
                    repeat (go_quiet (fail); try go_wp2)
                    go_ret
                    exact ⟨by first | rfl | (simp [errW_none, errW_some] <;> rfl) | (simp [*, errW_none, errW_some] <;> rfl), by repeat (first | (with_reducible first | exact HB.out | apply below_alloc | apply pw_below_drewN | apply below_drew1 | refine below_set ?_ GE216.out | refine below_set ?_ GE217.out) | exact HB.out)⟩


end Go.Proofs.Yteabbcnoamhofaa.B
