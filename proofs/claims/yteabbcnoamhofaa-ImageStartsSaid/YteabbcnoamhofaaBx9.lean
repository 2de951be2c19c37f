/- Out of the kit's print of this seat's functions, put together by a program of mine. -/
import Derived.Test.YteabbcnoamhofaaBx1
import Derived.Test.YteabbcnoamhofaaRight
namespace Go.Proofs.Yteabbcnoamhofaa.B
open Go.RowKit Go.Proofs.YteabbcnoamhofaaW.PrintWords Go.Proofs.YteabbcnoamhofaaW.PrintLast Go.Proofs.YteabbcnoamhofaaW.PrintMore
attribute [local go_sem] max2_int min2_int max_two min_two max_three min_three max_four min_four   -- for this text's walks alone
set_option linter.unusedVariables false
set_option linter.unusedSimpArgs false

/-! ### palingslaw18_right: function 10 -/
mutual
def palingslaw18_right.j0 : Nat → Bool → List (S26) → List (S33) → Int → Int → Option (Bool)
  | 0, _, _, _, _, _ => none
  | k + 1, x35, x180000, x180001, x180002, x180003 => if x35 = true then (some false) else (palingslaw18_right.l0 k 0 x180001 (x180001.length : Int) 0 x180000 x180001 x180002 x180003)
def palingslaw18_right.l0 : Nat → Int → List (S33) → Int → Int → List (S26) → List (S33) → Int → Int → Option (Bool)
  | 0, _, _, _, _, _, _, _, _ => none
  | k + 1, x3, x37, x38, x39, x180000, x180001, x180002, x180003 => if x39 < x38 then (if 0 ≤ x39 then (if x39 < (x37.length : Int) then (if ((rd_T33 x37 x39).f0) = x3 then (if ((rd_T33 x37 x39).f1) < 1 then (some false) else (if ((rd_T33 x37 x39).f1) > 4096 then (some false) else (if ((rd_T33 x37 x39).f2) < 0 then (some false) else (if ((rd_T33 x37 x39).f2) > 2 then (some false) else (palingslaw18_right.l0 k (wrap64 (x3 + ((rd_T33 x37 x39).f1))) x37 x38 (wrap64 (x39 + 1)) x180000 x180001 x180002 x180003))))) else (some false)) else (none)) else (none)) else (palingslaw18_right.l1 k x3 x180000 (x180000.length : Int) 0 x180000 x180001 x180002 x180003)
def palingslaw18_right.l1 : Nat → Int → List (S26) → Int → Int → List (S26) → List (S33) → Int → Int → Option (Bool)
  | 0, _, _, _, _, _, _, _, _ => none
  | k + 1, x3, x73, x74, x75, x180000, x180001, x180002, x180003 => if x75 < x74 then (if 0 ≤ x75 then (if x75 < (x73.length : Int) then (if ((rd_T26 x73 x75).f0) = 6 then ((code_Ins_Right.f k ((rd_T26 x73 x75).f0) ((rd_T26 x73 x75).f1) ((rd_T26 x73 x75).f2) ((rd_T26 x73 x75).f3) ((rd_T26 x73 x75).f4) ((rd_T26 x73 x75).f5)).bind fun t184 => (if t184 = true then (if ((rd_T26 x73 x75).f5) ≥ (x180000.length : Int) then (some false) else (palingslaw18_right.l1 k x3 x73 x74 (wrap64 (x75 + 1)) x180000 x180001 x180002 x180003)) else (some false))) else (if ((rd_T26 x73 x75).f0) = 7 then ((code_Ins_Right.f k ((rd_T26 x73 x75).f0) ((rd_T26 x73 x75).f1) ((rd_T26 x73 x75).f2) ((rd_T26 x73 x75).f3) ((rd_T26 x73 x75).f4) ((rd_T26 x73 x75).f5)).bind fun t185 => (if t185 = true then (if ((rd_T26 x73 x75).f5) ≥ (x180000.length : Int) then (some false) else (palingslaw18_right.l1 k x3 x73 x74 (wrap64 (x75 + 1)) x180000 x180001 x180002 x180003)) else (some false))) else ((code_Ins_Right.f k ((rd_T26 x73 x75).f0) ((rd_T26 x73 x75).f1) ((rd_T26 x73 x75).f2) ((rd_T26 x73 x75).f3) ((rd_T26 x73 x75).f4) ((rd_T26 x73 x75).f5)).bind fun t186 => (if t186 = true then (if ((rd_T26 x73 x75).f0) = 8 then (if ((rd_T26 x73 x75).f5) ≥ (x180000.length : Int) then (some false) else (palingslaw18_right.l1 k x3 x73 x74 (wrap64 (x75 + 1)) x180000 x180001 x180002 x180003)) else (palingslaw18_right.l1 k x3 x73 x74 (wrap64 (x75 + 1)) x180000 x180001 x180002 x180003)) else (some false))))) else (none)) else (none)) else (some (decide (x3 ≤ x180002)))
end
def palingslaw18_right.f (k : Nat) (l0_0 : List (S26)) (l0_1 : List (S33)) (a0_2 : Int) (a0_3 : Int) : Option (Bool) := if (l0_0.length : Int) = 0 then (palingslaw18_right.j0 k true l0_0 l0_1 a0_2 a0_3) else (if (l0_1.length : Int) > 64 then (palingslaw18_right.j0 k true l0_0 l0_1 a0_2 a0_3) else (if a0_2 < 0 then (palingslaw18_right.j0 k true l0_0 l0_1 a0_2 a0_3) else (if a0_3 < a0_2 then (palingslaw18_right.j0 k true l0_0 l0_1 a0_2 a0_3) else (palingslaw18_right.j0 k (decide (a0_3 > 1048576)) l0_0 l0_1 a0_2 a0_3))))
theorem palingslaw18_right.mono_l : ∀ k, (∀ y0 y1 y2 y3 y4, LeO (palingslaw18_right.j0 k y0 y1 y2 y3 y4) (palingslaw18_right.j0 (k + 1) y0 y1 y2 y3 y4)) ∧ (∀ y0 y1 y2 y3 y4 y5 y6 y7, LeO (palingslaw18_right.l0 k y0 y1 y2 y3 y4 y5 y6 y7) (palingslaw18_right.l0 (k + 1) y0 y1 y2 y3 y4 y5 y6 y7)) ∧ (∀ y0 y1 y2 y3 y4 y5 y6 y7, LeO (palingslaw18_right.l1 k y0 y1 y2 y3 y4 y5 y6 y7) (palingslaw18_right.l1 (k + 1) y0 y1 y2 y3 y4 y5 y6 y7))
  | 0 => ⟨fun _ _ _ _ _ r h => by simp [palingslaw18_right.j0] at h, fun _ _ _ _ _ _ _ _ r h => by simp [palingslaw18_right.l0] at h, fun _ _ _ _ _ _ _ _ r h => by simp [palingslaw18_right.l1] at h⟩
  | k + 1 => by
    obtain ⟨ih0, ih1, ih2⟩ := palingslaw18_right.mono_l k
    refine ⟨?_, ?_, ?_⟩
    · intro y0 y1 y2 y3 y4
      unfold palingslaw18_right.j0
      repeat' first
      | (with_reducible exact ih0 _ _ _ _ _)
      | (with_reducible exact ih1 _ _ _ _ _ _ _ _)
      | (with_reducible exact ih2 _ _ _ _ _ _ _ _)
      | (with_reducible exact code_Ins_Right.mono _ _ _ _ _ _ _)
      | (with_reducible exact LeO.refl _)
      | (with_reducible exact LeO.none _)
      | (with_reducible refine LeO.ite ?_ ?_)
      | (with_reducible refine LeO.bind ?_ (fun _ => ?_))
      | exact ih0 _ _ _ _ _
      | exact ih1 _ _ _ _ _ _ _ _
      | exact ih2 _ _ _ _ _ _ _ _
      | exact code_Ins_Right.mono _ _ _ _ _ _ _
      | exact LeO.none _
      | refine LeO.ite ?_ ?_
      | refine LeO.bind ?_ (fun _ => ?_)
    · intro y0 y1 y2 y3 y4 y5 y6 y7
      unfold palingslaw18_right.l0
      repeat' first
      | (with_reducible exact ih0 _ _ _ _ _)
      | (with_reducible exact ih1 _ _ _ _ _ _ _ _)
      | (with_reducible exact ih2 _ _ _ _ _ _ _ _)
      | (with_reducible exact code_Ins_Right.mono _ _ _ _ _ _ _)
      | (with_reducible exact LeO.refl _)
      | (with_reducible exact LeO.none _)
      | (with_reducible refine LeO.ite ?_ ?_)
      | (with_reducible refine LeO.bind ?_ (fun _ => ?_))
      | exact ih0 _ _ _ _ _
      | exact ih1 _ _ _ _ _ _ _ _
      | exact ih2 _ _ _ _ _ _ _ _
      | exact code_Ins_Right.mono _ _ _ _ _ _ _
      | exact LeO.none _
      | refine LeO.ite ?_ ?_
      | refine LeO.bind ?_ (fun _ => ?_)
    · intro y0 y1 y2 y3 y4 y5 y6 y7
      unfold palingslaw18_right.l1
      repeat' first
      | (with_reducible exact ih0 _ _ _ _ _)
      | (with_reducible exact ih1 _ _ _ _ _ _ _ _)
      | (with_reducible exact ih2 _ _ _ _ _ _ _ _)
      | (with_reducible exact code_Ins_Right.mono _ _ _ _ _ _ _)
      | (with_reducible exact LeO.refl _)
      | (with_reducible exact LeO.none _)
      | (with_reducible refine LeO.ite ?_ ?_)
      | (with_reducible refine LeO.bind ?_ (fun _ => ?_))
      | exact ih0 _ _ _ _ _
      | exact ih1 _ _ _ _ _ _ _ _
      | exact ih2 _ _ _ _ _ _ _ _
      | exact code_Ins_Right.mono _ _ _ _ _ _ _
      | exact LeO.none _
      | refine LeO.ite ?_ ?_
      | refine LeO.bind ?_ (fun _ => ?_)
theorem palingslaw18_right.mono : ∀ a0 a1 a2 a3 k, LeO (palingslaw18_right.f k a0 a1 a2 a3) (palingslaw18_right.f (k + 1) a0 a1 a2 a3) := by
  intro a0 a1 a2 a3 k
  obtain ⟨ih0, ih1, ih2⟩ := palingslaw18_right.mono_l k
  unfold palingslaw18_right.f
  repeat' first
      | (with_reducible exact ih0 _ _ _ _ _)
      | (with_reducible exact ih1 _ _ _ _ _ _ _ _)
      | (with_reducible exact ih2 _ _ _ _ _ _ _ _)
      | (with_reducible exact code_Ins_Right.mono _ _ _ _ _ _ _)
      | (with_reducible exact LeO.refl _)
      | (with_reducible exact LeO.none _)
      | (with_reducible refine LeO.ite ?_ ?_)
      | (with_reducible refine LeO.bind ?_ (fun _ => ?_))
      | exact ih0 _ _ _ _ _
      | exact ih1 _ _ _ _ _ _ _ _
      | exact ih2 _ _ _ _ _ _ _ _
      | exact code_Ins_Right.mono _ _ _ _ _ _ _
      | exact LeO.none _
      | refine LeO.ite ?_ ?_
      | refine LeO.bind ?_ (fun _ => ?_)
set_option maxHeartbeats 8000000 in
set_option maxRecDepth 100000 in
theorem palingslaw18_right.calls (k : Nat) (A0_0 : Option Addr) (c0_0 : Nat) (l0_0 : List (S26)) (A0_1 : Option Addr) (c0_1 : Nat) (l0_1 : List (S33)) (a0_2 : Int) (a0_3 : Int) (r : Bool) (w : World) (hr0_0 : Kd.C k26 w A0_0 l0_0.length l0_0) (hc0_0 : l0_0.length ≤ c0_0) (hr0_1 : Kd.C k33 w A0_1 l0_1.length l0_1) (hc0_1 : l0_1.length ≤ c0_1) (h : palingslaw18_right.f k l0_0 l0_1 a0_2 a0_3 = some r) :
    Calls Try.prog 10 #[.agg #[.slice A0_0 l0_0.length c0_0, .slice A0_1 l0_1.length c0_1, .int .i64 a0_2, .int .i64 a0_3]] w fun e w' => e = .returned (.bool r) ∧ Below w.heap.size w w' := by
  have hu30 := Try.underlying30
  have hu33 := Try.underlying33
  have hu26 := Try.underlying26
  have HR0_0 := Aside0.mk hr0_0
  have HC0_0 := Aside0.mk hc0_0
  clear hr0_0 hc0_0
  have HR0_1 := Aside0.mk hr0_1
  have HC0_1 := Aside0.mk hc0_1
  clear hr0_1 hc0_1
  have HB := Aside0.mk (Below.refl w.heap.size w)
  have H : (if (l0_0.length : Int) = 0 then (palingslaw18_right.j0 k true l0_0 l0_1 a0_2 a0_3) else (if (l0_1.length : Int) > 64 then (palingslaw18_right.j0 k true l0_0 l0_1 a0_2 a0_3) else (if a0_2 < 0 then (palingslaw18_right.j0 k true l0_0 l0_1 a0_2 a0_3) else (if a0_3 < a0_2 then (palingslaw18_right.j0 k true l0_0 l0_1 a0_2 a0_3) else (palingslaw18_right.j0 k (decide (a0_3 > 1048576)) l0_0 l0_1 a0_2 a0_3))))) = some r := h
  clear h
  have HC2 := Aside0.mk H
  clear H
  go_enter Try.func10, Try.ntmps10
  go_upto_region 1 with (first | ((with_reducible refine gate_dst (N := 1) rfl ?_); (try (refine gate_guard (by rfl) ?_; dsimp only)); refine box_event ?hg (N := 1) ?hd (cs := #[.slice A0_0 l0_0.length c0_0, .slice A0_1 l0_1.length c0_1, .int .i64 a0_2, .int .i64 a0_3]) (t := 30) ?hr ?_; (case hd => rfl); (case hg => rfl); (case hr => first | (go_simp; done) | (go_simp; rfl)); intro gb179 hg w3 hbox hb; have n0_ := Aside0.mk (below_step (by repeat (first | (with_reducible first | exact HB.out | apply below_alloc | apply pw_below_drewN | apply below_drew1) | exact HB.out)) hb); have n1_ := Aside0.mk (hbox); have n2_ := Aside0.mk ((by rw [hg]; exact (below_size (by repeat (first | (with_reducible first | exact HB.out | apply below_alloc | apply pw_below_drewN | apply below_drew1) | exact HB.out))) : w.heap.size ≤ gb179)); have n3_ := Aside0.mk ((by rw [hg]; exact (below_size (by repeat (first | (with_reducible first | exact HB.out | apply below_alloc | apply pw_below_drewN | apply below_drew1) | exact HB.out))) : w.heap.size ≤ gb179)); clear HB; have HB := n0_; have BK179 := n1_; have GW179 := n2_; have GE179 := n3_; clear n0_ n1_ n2_ n3_; clear hb hbox hg))
  (try simp only [Act.put, List.setIfInBounds_toArray, List.set_cons_zero, List.set_cons_succ])
  go_cut [35] (fun v35 wc => ∃ (kq : Nat) (x35_1 : Bool), v35 = .bool x35_1 ∧ Aside0 (palingslaw18_right.j0 kq x35_1 l0_0 l0_1 a0_2 a0_3 = some r) ∧ Aside0 (kq ≤ k) ∧ Aside0 (wc.heap[gb179]? = some (.cells #[(.slice A0_0 l0_0.length c0_0), (.slice A0_1 l0_1.length c0_1), .int .i64 a0_2, .int .i64 a0_3] 30 (0, 0))) ∧ Aside0 (Below w.heap.size w wc))
  case first =>
    have H := HC2.out
    clear HC2
    by_cases c4 : (l0_0.length : Int) = 0
    · rw [if_pos c4] at H
      have c4b0 : ((l0_0.length : Int) == 0) = true := beq_iff_eq.mpr c4
      have c4b1 : ((l0_0.length : Int) != 0) = false := bne_eq_false_iff_eq.mpr c4
      clear c4
      (first | rw [c4b0] | (simp only [i64_w, i32_w]; rw [c4b0]) | skip)
      have H' := Aside0.mk H
      clear H
      have hcz5_0 : w3.cell? ⟨gb179, 0, none⟩ = some (.slice A0_0 l0_0.length c0_0) := (blk_cell BK179.out 0).trans rfl
      have hcz5_1 : w3.cell? ⟨gb179, 1, none⟩ = some (.slice A0_1 l0_1.length c0_1) := (blk_cell BK179.out 1).trans rfl
      have hcz5_2 : w3.cell? ⟨gb179, 2, none⟩ = some (.int .i64 a0_2) := (blk_cell BK179.out 2).trans rfl
      have hcz5_3 : w3.cell? ⟨gb179, 3, none⟩ = some (.int .i64 a0_3) := (blk_cell BK179.out 3).trans rfl
      have hfz5_0 := blk_frozen BK179.out 0
      have hfz5_1 := blk_frozen BK179.out 1
      have hfz5_2 := blk_frozen BK179.out 2
      have hfz5_3 := blk_frozen BK179.out 3
      go_wp2
      go_meet
      case rel => exact ⟨_, (true), (by first | rfl | (simp; done) | (simp [*]; done)), H', ⟨by first | omega | exact Nat.le_refl _⟩, ⟨by (with_reducible repeat (first | refine blk_drewN ?_ _ | refine blk_drew ?_ | refine blk_alloc ?_ _)); exact BK179.out⟩, ⟨by repeat (first | (with_reducible first | exact HB.out | apply below_alloc | apply pw_below_drewN | apply below_drew1 | refine below_set ?_ GE179.out) | exact HB.out)⟩⟩
    · rw [if_neg c4] at H
      have c4b0 : ((l0_0.length : Int) == 0) = false := beq_eq_false_iff_ne.mpr c4
      have c4b1 : ((l0_0.length : Int) != 0) = true := bne_iff_ne.mpr c4
      have c4b2 : ¬ (l0_0 = []) := fun h_ => c4 (by rw [h_]; rfl)
      (first | rw [c4b0] | (simp only [i64_w, i32_w]; rw [c4b0]) | skip)
      by_cases c6 : (l0_1.length : Int) > 64
      · rw [if_pos c6] at H
        have c6b0 : decide (64 < (l0_1.length : Int)) = true := decide_eq_true c6
        have c6b1 : decide (64 < l0_1.length) = true := decide_eq_true (by omega)
        clear c6
        have H' := Aside0.mk H
        clear H
        have hcz7_0 : w3.cell? ⟨gb179, 0, none⟩ = some (.slice A0_0 l0_0.length c0_0) := (blk_cell BK179.out 0).trans rfl
        have hcz7_1 : w3.cell? ⟨gb179, 1, none⟩ = some (.slice A0_1 l0_1.length c0_1) := (blk_cell BK179.out 1).trans rfl
        have hcz7_2 : w3.cell? ⟨gb179, 2, none⟩ = some (.int .i64 a0_2) := (blk_cell BK179.out 2).trans rfl
        have hcz7_3 : w3.cell? ⟨gb179, 3, none⟩ = some (.int .i64 a0_3) := (blk_cell BK179.out 3).trans rfl
        have hfz7_0 := blk_frozen BK179.out 0
        have hfz7_1 := blk_frozen BK179.out 1
        have hfz7_2 := blk_frozen BK179.out 2
        have hfz7_3 := blk_frozen BK179.out 3
        go_wp2
        go_meet
        case rel => exact ⟨_, (true), (by first | rfl | (simp; done) | (simp [*]; done)), H', ⟨by first | omega | exact Nat.le_refl _⟩, ⟨by (with_reducible repeat (first | refine blk_drewN ?_ _ | refine blk_drew ?_ | refine blk_alloc ?_ _)); exact BK179.out⟩, ⟨by repeat (first | (with_reducible first | exact HB.out | apply below_alloc | apply pw_below_drewN | apply below_drew1 | refine below_set ?_ GE179.out) | exact HB.out)⟩⟩
      · rw [if_neg c6] at H
        have c6b0 : decide (64 < (l0_1.length : Int)) = false := decide_eq_false c6
        have c6b1 : decide (64 < l0_1.length) = false := decide_eq_false (by omega)
        clear c6
        by_cases c8 : a0_2 < 0
        · rw [if_pos c8] at H
          have c8b0 : decide (a0_2 < 0) = true := decide_eq_true c8
          clear c8
          have H' := Aside0.mk H
          clear H
          have hcz9_0 : w3.cell? ⟨gb179, 0, none⟩ = some (.slice A0_0 l0_0.length c0_0) := (blk_cell BK179.out 0).trans rfl
          have hcz9_1 : w3.cell? ⟨gb179, 1, none⟩ = some (.slice A0_1 l0_1.length c0_1) := (blk_cell BK179.out 1).trans rfl
          have hcz9_2 : w3.cell? ⟨gb179, 2, none⟩ = some (.int .i64 a0_2) := (blk_cell BK179.out 2).trans rfl
          have hcz9_3 : w3.cell? ⟨gb179, 3, none⟩ = some (.int .i64 a0_3) := (blk_cell BK179.out 3).trans rfl
          have hfz9_0 := blk_frozen BK179.out 0
          have hfz9_1 := blk_frozen BK179.out 1
          have hfz9_2 := blk_frozen BK179.out 2
          have hfz9_3 := blk_frozen BK179.out 3
          go_wp2
          go_meet
          case rel => exact ⟨_, (true), (by first | rfl | (simp; done) | (simp [*]; done)), H', ⟨by first | omega | exact Nat.le_refl _⟩, ⟨by (with_reducible repeat (first | refine blk_drewN ?_ _ | refine blk_drew ?_ | refine blk_alloc ?_ _)); exact BK179.out⟩, ⟨by repeat (first | (with_reducible first | exact HB.out | apply below_alloc | apply pw_below_drewN | apply below_drew1 | refine below_set ?_ GE179.out) | exact HB.out)⟩⟩
        · rw [if_neg c8] at H
          have c8b0 : decide (a0_2 < 0) = false := decide_eq_false c8
          clear c8
          by_cases c10 : a0_3 < a0_2
          · rw [if_pos c10] at H
            have c10b0 : decide (a0_3 < a0_2) = true := decide_eq_true c10
            clear c10
            have H' := Aside0.mk H
            clear H
            have hcz11_0 : w3.cell? ⟨gb179, 0, none⟩ = some (.slice A0_0 l0_0.length c0_0) := (blk_cell BK179.out 0).trans rfl
            have hcz11_1 : w3.cell? ⟨gb179, 1, none⟩ = some (.slice A0_1 l0_1.length c0_1) := (blk_cell BK179.out 1).trans rfl
            have hcz11_2 : w3.cell? ⟨gb179, 2, none⟩ = some (.int .i64 a0_2) := (blk_cell BK179.out 2).trans rfl
            have hcz11_3 : w3.cell? ⟨gb179, 3, none⟩ = some (.int .i64 a0_3) := (blk_cell BK179.out 3).trans rfl
            have hfz11_0 := blk_frozen BK179.out 0
            have hfz11_1 := blk_frozen BK179.out 1
            have hfz11_2 := blk_frozen BK179.out 2
            have hfz11_3 := blk_frozen BK179.out 3
            go_wp2
            go_meet
            case rel => exact ⟨_, (true), (by first | rfl | (simp; done) | (simp [*]; done)), H', ⟨by first | omega | exact Nat.le_refl _⟩, ⟨by (with_reducible repeat (first | refine blk_drewN ?_ _ | refine blk_drew ?_ | refine blk_alloc ?_ _)); exact BK179.out⟩, ⟨by repeat (first | (with_reducible first | exact HB.out | apply below_alloc | apply pw_below_drewN | apply below_drew1 | refine below_set ?_ GE179.out) | exact HB.out)⟩⟩
          · rw [if_neg c10] at H
            have c10b0 : decide (a0_3 < a0_2) = false := decide_eq_false c10
            clear c10
            have H' := Aside0.mk H
            clear H
            have hcz12_0 : w3.cell? ⟨gb179, 0, none⟩ = some (.slice A0_0 l0_0.length c0_0) := (blk_cell BK179.out 0).trans rfl
            have hcz12_1 : w3.cell? ⟨gb179, 1, none⟩ = some (.slice A0_1 l0_1.length c0_1) := (blk_cell BK179.out 1).trans rfl
            have hcz12_2 : w3.cell? ⟨gb179, 2, none⟩ = some (.int .i64 a0_2) := (blk_cell BK179.out 2).trans rfl
            have hcz12_3 : w3.cell? ⟨gb179, 3, none⟩ = some (.int .i64 a0_3) := (blk_cell BK179.out 3).trans rfl
            have hfz12_0 := blk_frozen BK179.out 0
            have hfz12_1 := blk_frozen BK179.out 1
            have hfz12_2 := blk_frozen BK179.out 2
            have hfz12_3 := blk_frozen BK179.out 3
            go_wp2
            go_meet
            case rel => exact ⟨_, (decide (a0_3 > 1048576)), (by first | rfl | (simp; done) | (simp [*]; done)), H', ⟨by first | omega | exact Nat.le_refl _⟩, ⟨by (with_reducible repeat (first | refine blk_drewN ?_ _ | refine blk_drew ?_ | refine blk_alloc ?_ _)); exact BK179.out⟩, ⟨by repeat (first | (with_reducible first | exact HB.out | apply below_alloc | apply pw_below_drewN | apply below_drew1 | refine below_set ?_ GE179.out) | exact HB.out)⟩⟩
  case rest =>
    clear HC2
    try clear c1
    try clear p2
    try clear c4
    try clear c4b0
    try clear c4b1
    try clear c4b2
    try clear c6
    try clear c6b0
    try clear c6b1
    try clear c8
    try clear c8b0
    try clear c10
    try clear c10b0
    try clear hcz11_0
    try clear hcz11_1
    try clear hcz11_2
    try clear hcz11_3
    try clear hcz12_0
    try clear hcz12_1
    try clear hcz12_2
    try clear hcz12_3
    try clear hcz5_0
    try clear hcz5_1
    try clear hcz5_2
    try clear hcz5_3
    try clear hcz7_0
    try clear hcz7_1
    try clear hcz7_2
    try clear hcz7_3
    try clear hcz9_0
    try clear hcz9_1
    try clear hcz9_2
    try clear hcz9_3
    try clear hfz11_0
    try clear hfz11_1
    try clear hfz11_2
    try clear hfz11_3
    try clear hfz12_0
    try clear hfz12_1
    try clear hfz12_2
    try clear hfz12_3
    try clear hfz5_0
    try clear hfz5_1
    try clear hfz5_2
    try clear hfz5_3
    try clear hfz7_0
    try clear hfz7_1
    try clear hfz7_2
    try clear hfz7_3
    try clear hfz9_0
    try clear hfz9_1
    try clear hfz9_2
    try clear hfz9_3
    obtain ⟨kq, x35_1, rfl, HA, HJ1, BK179, HB⟩ := hcut
    cases kq with
    | zero => exact absurd HA.out (by simp [palingslaw18_right.j0])
    | succ kj1 =>
      have H := HA.out
      clear HA
      simp only [palingslaw18_right.j0] at H
      by_cases c13 : x35_1 = true
      · subst c13
        have H1 : (some false) = some r := by rw [if_pos rfl] at H; exact H
        clear H
        have H := H1
        clear H1
        obtain rfl := Option.some.inj H
        go_wp2
        go_ret
        exact ⟨by first | rfl | (simp [errW_none, errW_some] <;> rfl) | (simp [*, errW_none, errW_some] <;> rfl), by repeat (first | (with_reducible first | exact HB.out | apply below_alloc | apply pw_below_drewN | apply below_drew1 | refine below_set ?_ GE179.out) | exact HB.out)⟩
      · replace c13 := Bool.eq_false_iff.mpr c13
        subst c13
        have H1 : (palingslaw18_right.l0 kj1 0 l0_1 (l0_1.length : Int) 0 l0_0 l0_1 a0_2 a0_3) = some r := by rw [if_neg (show ¬ (false = true) by decide)] at H; exact H
        clear H
        have H := H1
        clear H1
        have H' := Aside0.mk H
        clear H
        have hcz14_0 : wc.cell? ⟨gb179, 0, none⟩ = some (.slice A0_0 l0_0.length c0_0) := (blk_cell BK179.out 0).trans rfl
        have hcz14_1 : wc.cell? ⟨gb179, 1, none⟩ = some (.slice A0_1 l0_1.length c0_1) := (blk_cell BK179.out 1).trans rfl
        have hcz14_2 : wc.cell? ⟨gb179, 2, none⟩ = some (.int .i64 a0_2) := (blk_cell BK179.out 2).trans rfl
        have hcz14_3 : wc.cell? ⟨gb179, 3, none⟩ = some (.int .i64 a0_3) := (blk_cell BK179.out 3).trans rfl
        have hfz14_0 := blk_frozen BK179.out 0
        have hfz14_1 := blk_frozen BK179.out 1
        have hfz14_2 := blk_frozen BK179.out 2
        have hfz14_3 := blk_frozen BK179.out 3
        go_wp2
        go_loopg [3, 39] kj1 (fun kq v3 v39 w' => ∃ (x3_2 : Int) (x39_2 : Int), v3 = .int .i64 x3_2 ∧ v39 = .int .i64 x39_2 ∧ Aside0 (palingslaw18_right.l0 kq x3_2 l0_1 (l0_1.length : Int) x39_2 l0_0 l0_1 a0_2 a0_3 = some r) ∧ Aside0 (kq ≤ kj1) ∧ Aside0 (w'.heap[gb179]? = some (.cells #[(.slice A0_0 l0_0.length c0_0), (.slice A0_1 l0_1.length c0_1), .int .i64 a0_2, .int .i64 a0_3] 30 (0, 0))) ∧ Aside0 (Below w.heap.size w w'))
        case atStart => exact ⟨(0), (0), (by first | rfl | (simp; done) | (simp [*]; done)), (by first | rfl | (simp; done) | (simp [*]; done)), H', ⟨Nat.le_refl _⟩, ⟨by (with_reducible repeat (first | refine blk_drewN ?_ _ | refine blk_drew ?_ | refine blk_alloc ?_ _)); exact BK179.out⟩, ⟨by repeat (first | (with_reducible first | exact HB.out | apply below_alloc | apply pw_below_drewN | apply below_drew1 | refine below_set ?_ GE179.out) | exact HB.out)⟩⟩
        case round =>
          clear H'
          try clear c1
          try clear p2
          try clear c4
          try clear c4b0
          try clear c4b1
          try clear c4b2
          try clear c6
          try clear c6b0
          try clear c6b1
          try clear c8
          try clear c8b0
          try clear c10
          try clear c10b0
          try clear c13
          try clear hcz11_0
          try clear hcz11_1
          try clear hcz11_2
          try clear hcz11_3
          try clear hcz12_0
          try clear hcz12_1
          try clear hcz12_2
          try clear hcz12_3
          try clear hcz14_0
          try clear hcz14_1
          try clear hcz14_2
          try clear hcz14_3
          try clear hcz5_0
          try clear hcz5_1
          try clear hcz5_2
          try clear hcz5_3
          try clear hcz7_0
          try clear hcz7_1
          try clear hcz7_2
          try clear hcz7_3
          try clear hcz9_0
          try clear hcz9_1
          try clear hcz9_2
          try clear hcz9_3
          try clear hfz11_0
          try clear hfz11_1
          try clear hfz11_2
          try clear hfz11_3
          try clear hfz12_0
          try clear hfz12_1
          try clear hfz12_2
          try clear hfz12_3
          try clear hfz14_0
          try clear hfz14_1
          try clear hfz14_2
          try clear hfz14_3
          try clear hfz5_0
          try clear hfz5_1
          try clear hfz5_2
          try clear hfz5_3
          try clear hfz7_0
          try clear hfz7_1
          try clear hfz7_2
          try clear hfz7_3
          try clear hfz9_0
          try clear hfz9_1
          try clear hfz9_2
          try clear hfz9_3
          try clear p2
          obtain ⟨x3_2, x39_2, rfl, rfl, HA, HK2, BK179, HB⟩ := hrel
          cases gk with
          | zero => exact absurd HA.out (by simp [palingslaw18_right.l0])
          | succ k2 =>
            have H := HA.out
            clear HA
            simp only [palingslaw18_right.l0] at H
            by_cases c15 : x39_2 < (l0_1.length : Int)
            · rw [if_pos c15] at H
              have c15b0 : decide (x39_2 < (l0_1.length : Int)) = true := decide_eq_true c15
              clear c15
              by_cases c16 : 0 ≤ x39_2
              · rw [if_pos c16] at H
                have c16b0 : decide (0 ≤ x39_2) = true := decide_eq_true c16
                clear c16
                by_cases c17 : x39_2 < (l0_1.length : Int)
                · rw [if_pos c17] at H
                  have c17b0 : decide (x39_2 < (l0_1.length : Int)) = true := decide_eq_true c17
                  clear c17
                  by_cases c18 : ((rd_T33 l0_1 x39_2).f0) = x3_2
                  · rw [if_pos c18] at H
                    have c18b0 : (((rd_T33 l0_1 x39_2).f0) == x3_2) = true := beq_iff_eq.mpr c18
                    have c18b1 : (((rd_T33 l0_1 x39_2).f0) != x3_2) = false := bne_eq_false_iff_eq.mpr c18
                    clear c18
                    by_cases c19 : ((rd_T33 l0_1 x39_2).f1) < 1
                    · rw [if_pos c19] at H
                      have c19b0 : decide (((rd_T33 l0_1 x39_2).f1) < 1) = true := decide_eq_true c19
                      clear c19
                      obtain rfl := Option.some.inj H
                      have p180 : 0 ≤ (x39_2 : Int) := of_decide_eq_true (by first | (with_reducible assumption) | assumption)
                      have q180 : x39_2 < (l0_1.length : Int) := of_decide_eq_true (by first | (with_reducible assumption) | assumption)
                      obtain ⟨ad180, e180, hx180_0, hx180_1, hx180_2⟩ := at_T33 HR0_1.out x39_2 p180 q180
                      cases e180
                      replace hx180_0 := (HB.out.cell (World.block_lt_of_cell? w _ hx180_0)).trans hx180_0
                      replace hx180_1 := (HB.out.cell (World.block_lt_of_cell? w _ hx180_1)).trans hx180_1
                      replace hx180_2 := (HB.out.cell (World.block_lt_of_cell? w _ hx180_2)).trans hx180_2
                      replace p180 := eq_true p180
                      replace q180 := eq_true q180
                      go_wp2_with (first | ((with_reducible refine gate_dst (N := 5) rfl ?_); (try (refine gate_guard (by rfl) ?_; dsimp only)); refine box_event ?hg (N := 5) ?hd (cs := #[.int .i64 0, .int .i64 0, .int .i64 0]) (t := 33) ?hr ?_; (case hd => rfl); (case hg => rfl); (case hr => first | (go_simp; done) | (go_simp; rfl)); intro gb181 hg w20 hbox hb; have n0_ := Aside0.mk (blk_below (g := gb179) (o := .cells #[.slice A0_0 l0_0.length c0_0, .slice (some ad180) l0_1.length c0_1, .int .i64 a0_2, .int .i64 a0_3] 30 (0, 0)) (by (with_reducible repeat (first | refine blk_drewN ?_ _ | refine blk_drew ?_ | refine blk_alloc ?_ _)); exact BK179.out) hb); have n1_ := Aside0.mk (below_step (by repeat (first | (with_reducible first | exact HB.out | apply below_alloc | apply pw_below_drewN | apply below_drew1 | refine below_set ?_ GE179.out) | exact HB.out)) hb); have n2_ := Aside0.mk (hbox); have n3_ := Aside0.mk ((by rw [hg]; exact (below_size (by repeat (first | (with_reducible first | exact HB.out | apply below_alloc | apply pw_below_drewN | apply below_drew1 | refine below_set ?_ GE179.out) | exact HB.out))) : w.heap.size ≤ gb181)); have n4_ := Aside0.mk ((by rw [hg]; exact (below_size (by repeat (first | (with_reducible first | exact HB.out | apply below_alloc | apply pw_below_drewN | apply below_drew1 | refine below_set ?_ GE179.out) | exact HB.out))) : w.heap.size ≤ gb181)); have n5_ := Aside0.mk ((by rw [hg]; exact Nat.ne_of_lt (blk_lt (g := gb179) (o := .cells #[.slice A0_0 l0_0.length c0_0, .slice (some ad180) l0_1.length c0_1, .int .i64 a0_2, .int .i64 a0_3] 30 (0, 0)) (by (with_reducible repeat (first | refine blk_drewN ?_ _ | refine blk_drew ?_ | refine blk_alloc ?_ _)); exact BK179.out)) : gb179 ≠ gb181)); have n6_ := Aside0.mk ((by rw [hg]; exact Nat.ne_of_gt (blk_lt (g := gb179) (o := .cells #[.slice A0_0 l0_0.length c0_0, .slice (some ad180) l0_1.length c0_1, .int .i64 a0_2, .int .i64 a0_3] 30 (0, 0)) (by (with_reducible repeat (first | refine blk_drewN ?_ _ | refine blk_drew ?_ | refine blk_alloc ?_ _)); exact BK179.out)) : gb181 ≠ gb179)); clear BK179; clear HB; have BK179 := n0_; have HB := n1_; have BK181 := n2_; have GW181 := n3_; have GE181 := n4_; have NB179_181 := n5_; have NB181_179 := n6_; clear n0_ n1_ n2_ n3_ n4_ n5_ n6_; clear hb hbox hg; have hnb21 := NB181_179.out; have hnc21 := NB179_181.out; have hcz22_0 : w20.cell? ⟨gb181, 0, none⟩ = some (.int .i64 0) := (blk_cell BK181.out 0).trans rfl; have hcz22_1 : w20.cell? ⟨gb181, 1, none⟩ = some (.int .i64 0) := (blk_cell BK181.out 1).trans rfl; have hcz22_2 : w20.cell? ⟨gb181, 2, none⟩ = some (.int .i64 0) := (blk_cell BK181.out 2).trans rfl; have hfz22_0 := blk_frozen BK181.out 0; have hfz22_1 := blk_frozen BK181.out 1; have hfz22_2 := blk_frozen BK181.out 2))
                      go_ret
                      exact ⟨by first | rfl | (simp [errW_none, errW_some] <;> rfl) | (simp [*, errW_none, errW_some] <;> rfl), by repeat (first | (with_reducible first | exact HB.out | apply below_alloc | apply pw_below_drewN | apply below_drew1 | refine below_set ?_ GE179.out | refine below_set ?_ GE181.out) | exact HB.out)⟩
                    · rw [if_neg c19] at H
                      have c19b0 : decide (((rd_T33 l0_1 x39_2).f1) < 1) = false := decide_eq_false c19
                      clear c19
                      by_cases c23 : ((rd_T33 l0_1 x39_2).f1) > 4096
                      · rw [if_pos c23] at H
                        have c23b0 : decide (4096 < ((rd_T33 l0_1 x39_2).f1)) = true := decide_eq_true c23
                        clear c23
                        obtain rfl := Option.some.inj H
                        have p180 : 0 ≤ (x39_2 : Int) := of_decide_eq_true (by first | (with_reducible assumption) | assumption)
                        have q180 : x39_2 < (l0_1.length : Int) := of_decide_eq_true (by first | (with_reducible assumption) | assumption)
                        obtain ⟨ad180, e180, hx180_0, hx180_1, hx180_2⟩ := at_T33 HR0_1.out x39_2 p180 q180
                        cases e180
                        replace hx180_0 := (HB.out.cell (World.block_lt_of_cell? w _ hx180_0)).trans hx180_0
                        replace hx180_1 := (HB.out.cell (World.block_lt_of_cell? w _ hx180_1)).trans hx180_1
                        replace hx180_2 := (HB.out.cell (World.block_lt_of_cell? w _ hx180_2)).trans hx180_2
                        replace p180 := eq_true p180
                        replace q180 := eq_true q180
                        go_wp2_with (first | ((with_reducible refine gate_dst (N := 5) rfl ?_); (try (refine gate_guard (by rfl) ?_; dsimp only)); refine box_event ?hg (N := 5) ?hd (cs := #[.int .i64 0, .int .i64 0, .int .i64 0]) (t := 33) ?hr ?_; (case hd => rfl); (case hg => rfl); (case hr => first | (go_simp; done) | (go_simp; rfl)); intro gb181 hg w24 hbox hb; have n0_ := Aside0.mk (blk_below (g := gb179) (o := .cells #[.slice A0_0 l0_0.length c0_0, .slice (some ad180) l0_1.length c0_1, .int .i64 a0_2, .int .i64 a0_3] 30 (0, 0)) (by (with_reducible repeat (first | refine blk_drewN ?_ _ | refine blk_drew ?_ | refine blk_alloc ?_ _)); exact BK179.out) hb); have n1_ := Aside0.mk (below_step (by repeat (first | (with_reducible first | exact HB.out | apply below_alloc | apply pw_below_drewN | apply below_drew1 | refine below_set ?_ GE179.out) | exact HB.out)) hb); have n2_ := Aside0.mk (hbox); have n3_ := Aside0.mk ((by rw [hg]; exact (below_size (by repeat (first | (with_reducible first | exact HB.out | apply below_alloc | apply pw_below_drewN | apply below_drew1 | refine below_set ?_ GE179.out) | exact HB.out))) : w.heap.size ≤ gb181)); have n4_ := Aside0.mk ((by rw [hg]; exact (below_size (by repeat (first | (with_reducible first | exact HB.out | apply below_alloc | apply pw_below_drewN | apply below_drew1 | refine below_set ?_ GE179.out) | exact HB.out))) : w.heap.size ≤ gb181)); have n5_ := Aside0.mk ((by rw [hg]; exact Nat.ne_of_lt (blk_lt (g := gb179) (o := .cells #[.slice A0_0 l0_0.length c0_0, .slice (some ad180) l0_1.length c0_1, .int .i64 a0_2, .int .i64 a0_3] 30 (0, 0)) (by (with_reducible repeat (first | refine blk_drewN ?_ _ | refine blk_drew ?_ | refine blk_alloc ?_ _)); exact BK179.out)) : gb179 ≠ gb181)); have n6_ := Aside0.mk ((by rw [hg]; exact Nat.ne_of_gt (blk_lt (g := gb179) (o := .cells #[.slice A0_0 l0_0.length c0_0, .slice (some ad180) l0_1.length c0_1, .int .i64 a0_2, .int .i64 a0_3] 30 (0, 0)) (by (with_reducible repeat (first | refine blk_drewN ?_ _ | refine blk_drew ?_ | refine blk_alloc ?_ _)); exact BK179.out)) : gb181 ≠ gb179)); clear BK179; clear HB; have BK179 := n0_; have HB := n1_; have BK181 := n2_; have GW181 := n3_; have GE181 := n4_; have NB179_181 := n5_; have NB181_179 := n6_; clear n0_ n1_ n2_ n3_ n4_ n5_ n6_; clear hb hbox hg; have hnb25 := NB181_179.out; have hnc25 := NB179_181.out; have hcz26_0 : w24.cell? ⟨gb181, 0, none⟩ = some (.int .i64 0) := (blk_cell BK181.out 0).trans rfl; have hcz26_1 : w24.cell? ⟨gb181, 1, none⟩ = some (.int .i64 0) := (blk_cell BK181.out 1).trans rfl; have hcz26_2 : w24.cell? ⟨gb181, 2, none⟩ = some (.int .i64 0) := (blk_cell BK181.out 2).trans rfl; have hfz26_0 := blk_frozen BK181.out 0; have hfz26_1 := blk_frozen BK181.out 1; have hfz26_2 := blk_frozen BK181.out 2))
                        go_ret
                        exact ⟨by first | rfl | (simp [errW_none, errW_some] <;> rfl) | (simp [*, errW_none, errW_some] <;> rfl), by repeat (first | (with_reducible first | exact HB.out | apply below_alloc | apply pw_below_drewN | apply below_drew1 | refine below_set ?_ GE179.out | refine below_set ?_ GE181.out) | exact HB.out)⟩
                      · rw [if_neg c23] at H
                        have c23b0 : decide (4096 < ((rd_T33 l0_1 x39_2).f1)) = false := decide_eq_false c23
                        clear c23
                        by_cases c27 : ((rd_T33 l0_1 x39_2).f2) < 0
                        · rw [if_pos c27] at H
                          have c27b0 : decide (((rd_T33 l0_1 x39_2).f2) < 0) = true := decide_eq_true c27
                          clear c27
                          obtain rfl := Option.some.inj H
                          have p180 : 0 ≤ (x39_2 : Int) := of_decide_eq_true (by first | (with_reducible assumption) | assumption)
                          have q180 : x39_2 < (l0_1.length : Int) := of_decide_eq_true (by first | (with_reducible assumption) | assumption)
                          obtain ⟨ad180, e180, hx180_0, hx180_1, hx180_2⟩ := at_T33 HR0_1.out x39_2 p180 q180
                          cases e180
                          replace hx180_0 := (HB.out.cell (World.block_lt_of_cell? w _ hx180_0)).trans hx180_0
                          replace hx180_1 := (HB.out.cell (World.block_lt_of_cell? w _ hx180_1)).trans hx180_1
                          replace hx180_2 := (HB.out.cell (World.block_lt_of_cell? w _ hx180_2)).trans hx180_2
                          replace p180 := eq_true p180
                          replace q180 := eq_true q180
                          go_wp2_with (first | ((with_reducible refine gate_dst (N := 5) rfl ?_); (try (refine gate_guard (by rfl) ?_; dsimp only)); refine box_event ?hg (N := 5) ?hd (cs := #[.int .i64 0, .int .i64 0, .int .i64 0]) (t := 33) ?hr ?_; (case hd => rfl); (case hg => rfl); (case hr => first | (go_simp; done) | (go_simp; rfl)); intro gb181 hg w28 hbox hb; have n0_ := Aside0.mk (blk_below (g := gb179) (o := .cells #[.slice A0_0 l0_0.length c0_0, .slice (some ad180) l0_1.length c0_1, .int .i64 a0_2, .int .i64 a0_3] 30 (0, 0)) (by (with_reducible repeat (first | refine blk_drewN ?_ _ | refine blk_drew ?_ | refine blk_alloc ?_ _)); exact BK179.out) hb); have n1_ := Aside0.mk (below_step (by repeat (first | (with_reducible first | exact HB.out | apply below_alloc | apply pw_below_drewN | apply below_drew1 | refine below_set ?_ GE179.out) | exact HB.out)) hb); have n2_ := Aside0.mk (hbox); have n3_ := Aside0.mk ((by rw [hg]; exact (below_size (by repeat (first | (with_reducible first | exact HB.out | apply below_alloc | apply pw_below_drewN | apply below_drew1 | refine below_set ?_ GE179.out) | exact HB.out))) : w.heap.size ≤ gb181)); have n4_ := Aside0.mk ((by rw [hg]; exact (below_size (by repeat (first | (with_reducible first | exact HB.out | apply below_alloc | apply pw_below_drewN | apply below_drew1 | refine below_set ?_ GE179.out) | exact HB.out))) : w.heap.size ≤ gb181)); have n5_ := Aside0.mk ((by rw [hg]; exact Nat.ne_of_lt (blk_lt (g := gb179) (o := .cells #[.slice A0_0 l0_0.length c0_0, .slice (some ad180) l0_1.length c0_1, .int .i64 a0_2, .int .i64 a0_3] 30 (0, 0)) (by (with_reducible repeat (first | refine blk_drewN ?_ _ | refine blk_drew ?_ | refine blk_alloc ?_ _)); exact BK179.out)) : gb179 ≠ gb181)); have n6_ := Aside0.mk ((by rw [hg]; exact Nat.ne_of_gt (blk_lt (g := gb179) (o := .cells #[.slice A0_0 l0_0.length c0_0, .slice (some ad180) l0_1.length c0_1, .int .i64 a0_2, .int .i64 a0_3] 30 (0, 0)) (by (with_reducible repeat (first | refine blk_drewN ?_ _ | refine blk_drew ?_ | refine blk_alloc ?_ _)); exact BK179.out)) : gb181 ≠ gb179)); clear BK179; clear HB; have BK179 := n0_; have HB := n1_; have BK181 := n2_; have GW181 := n3_; have GE181 := n4_; have NB179_181 := n5_; have NB181_179 := n6_; clear n0_ n1_ n2_ n3_ n4_ n5_ n6_; clear hb hbox hg; have hnb29 := NB181_179.out; have hnc29 := NB179_181.out; have hcz30_0 : w28.cell? ⟨gb181, 0, none⟩ = some (.int .i64 0) := (blk_cell BK181.out 0).trans rfl; have hcz30_1 : w28.cell? ⟨gb181, 1, none⟩ = some (.int .i64 0) := (blk_cell BK181.out 1).trans rfl; have hcz30_2 : w28.cell? ⟨gb181, 2, none⟩ = some (.int .i64 0) := (blk_cell BK181.out 2).trans rfl; have hfz30_0 := blk_frozen BK181.out 0; have hfz30_1 := blk_frozen BK181.out 1; have hfz30_2 := blk_frozen BK181.out 2))
                          go_ret
                          exact ⟨by first | rfl | (simp [errW_none, errW_some] <;> rfl) | (simp [*, errW_none, errW_some] <;> rfl), by repeat (first | (with_reducible first | exact HB.out | apply below_alloc | apply pw_below_drewN | apply below_drew1 | refine below_set ?_ GE179.out | refine below_set ?_ GE181.out) | exact HB.out)⟩
                        · rw [if_neg c27] at H
                          have c27b0 : decide (((rd_T33 l0_1 x39_2).f2) < 0) = false := decide_eq_false c27
                          clear c27
                          by_cases c31 : ((rd_T33 l0_1 x39_2).f2) > 2
                          · rw [if_pos c31] at H
                            have c31b0 : decide (2 < ((rd_T33 l0_1 x39_2).f2)) = true := decide_eq_true c31
                            clear c31
                            obtain rfl := Option.some.inj H
                            have p180 : 0 ≤ (x39_2 : Int) := of_decide_eq_true (by first | (with_reducible assumption) | assumption)
                            have q180 : x39_2 < (l0_1.length : Int) := of_decide_eq_true (by first | (with_reducible assumption) | assumption)
                            obtain ⟨ad180, e180, hx180_0, hx180_1, hx180_2⟩ := at_T33 HR0_1.out x39_2 p180 q180
                            cases e180
                            replace hx180_0 := (HB.out.cell (World.block_lt_of_cell? w _ hx180_0)).trans hx180_0
                            replace hx180_1 := (HB.out.cell (World.block_lt_of_cell? w _ hx180_1)).trans hx180_1
                            replace hx180_2 := (HB.out.cell (World.block_lt_of_cell? w _ hx180_2)).trans hx180_2
                            replace p180 := eq_true p180
                            replace q180 := eq_true q180
                            go_wp2_with (first | ((with_reducible refine gate_dst (N := 5) rfl ?_); (try (refine gate_guard (by rfl) ?_; dsimp only)); refine box_event ?hg (N := 5) ?hd (cs := #[.int .i64 0, .int .i64 0, .int .i64 0]) (t := 33) ?hr ?_; (case hd => rfl); (case hg => rfl); (case hr => first | (go_simp; done) | (go_simp; rfl)); intro gb181 hg w32 hbox hb; have n0_ := Aside0.mk (blk_below (g := gb179) (o := .cells #[.slice A0_0 l0_0.length c0_0, .slice (some ad180) l0_1.length c0_1, .int .i64 a0_2, .int .i64 a0_3] 30 (0, 0)) (by (with_reducible repeat (first | refine blk_drewN ?_ _ | refine blk_drew ?_ | refine blk_alloc ?_ _)); exact BK179.out) hb); have n1_ := Aside0.mk (below_step (by repeat (first | (with_reducible first | exact HB.out | apply below_alloc | apply pw_below_drewN | apply below_drew1 | refine below_set ?_ GE179.out) | exact HB.out)) hb); have n2_ := Aside0.mk (hbox); have n3_ := Aside0.mk ((by rw [hg]; exact (below_size (by repeat (first | (with_reducible first | exact HB.out | apply below_alloc | apply pw_below_drewN | apply below_drew1 | refine below_set ?_ GE179.out) | exact HB.out))) : w.heap.size ≤ gb181)); have n4_ := Aside0.mk ((by rw [hg]; exact (below_size (by repeat (first | (with_reducible first | exact HB.out | apply below_alloc | apply pw_below_drewN | apply below_drew1 | refine below_set ?_ GE179.out) | exact HB.out))) : w.heap.size ≤ gb181)); have n5_ := Aside0.mk ((by rw [hg]; exact Nat.ne_of_lt (blk_lt (g := gb179) (o := .cells #[.slice A0_0 l0_0.length c0_0, .slice (some ad180) l0_1.length c0_1, .int .i64 a0_2, .int .i64 a0_3] 30 (0, 0)) (by (with_reducible repeat (first | refine blk_drewN ?_ _ | refine blk_drew ?_ | refine blk_alloc ?_ _)); exact BK179.out)) : gb179 ≠ gb181)); have n6_ := Aside0.mk ((by rw [hg]; exact Nat.ne_of_gt (blk_lt (g := gb179) (o := .cells #[.slice A0_0 l0_0.length c0_0, .slice (some ad180) l0_1.length c0_1, .int .i64 a0_2, .int .i64 a0_3] 30 (0, 0)) (by (with_reducible repeat (first | refine blk_drewN ?_ _ | refine blk_drew ?_ | refine blk_alloc ?_ _)); exact BK179.out)) : gb181 ≠ gb179)); clear BK179; clear HB; have BK179 := n0_; have HB := n1_; have BK181 := n2_; have GW181 := n3_; have GE181 := n4_; have NB179_181 := n5_; have NB181_179 := n6_; clear n0_ n1_ n2_ n3_ n4_ n5_ n6_; clear hb hbox hg; have hnb33 := NB181_179.out; have hnc33 := NB179_181.out; have hcz34_0 : w32.cell? ⟨gb181, 0, none⟩ = some (.int .i64 0) := (blk_cell BK181.out 0).trans rfl; have hcz34_1 : w32.cell? ⟨gb181, 1, none⟩ = some (.int .i64 0) := (blk_cell BK181.out 1).trans rfl; have hcz34_2 : w32.cell? ⟨gb181, 2, none⟩ = some (.int .i64 0) := (blk_cell BK181.out 2).trans rfl; have hfz34_0 := blk_frozen BK181.out 0; have hfz34_1 := blk_frozen BK181.out 1; have hfz34_2 := blk_frozen BK181.out 2))
                            go_ret
                            exact ⟨by first | rfl | (simp [errW_none, errW_some] <;> rfl) | (simp [*, errW_none, errW_some] <;> rfl), by repeat (first | (with_reducible first | exact HB.out | apply below_alloc | apply pw_below_drewN | apply below_drew1 | refine below_set ?_ GE179.out | refine below_set ?_ GE181.out) | exact HB.out)⟩
                          · rw [if_neg c31] at H
                            have c31b0 : decide (2 < ((rd_T33 l0_1 x39_2).f2)) = false := decide_eq_false c31
                            clear c31
                            have H' := Aside0.mk H
                            clear H
                            have p180 : 0 ≤ (x39_2 : Int) := of_decide_eq_true (by first | (with_reducible assumption) | assumption)
                            have q180 : x39_2 < (l0_1.length : Int) := of_decide_eq_true (by first | (with_reducible assumption) | assumption)
                            obtain ⟨ad180, e180, hx180_0, hx180_1, hx180_2⟩ := at_T33 HR0_1.out x39_2 p180 q180
                            cases e180
                            replace hx180_0 := (HB.out.cell (World.block_lt_of_cell? w _ hx180_0)).trans hx180_0
                            replace hx180_1 := (HB.out.cell (World.block_lt_of_cell? w _ hx180_1)).trans hx180_1
                            replace hx180_2 := (HB.out.cell (World.block_lt_of_cell? w _ hx180_2)).trans hx180_2
                            replace p180 := eq_true p180
                            replace q180 := eq_true q180
                            go_wp2_with (first | ((with_reducible refine gate_dst (N := 5) rfl ?_); (try (refine gate_guard (by rfl) ?_; dsimp only)); refine box_event ?hg (N := 5) ?hd (cs := #[.int .i64 0, .int .i64 0, .int .i64 0]) (t := 33) ?hr ?_; (case hd => rfl); (case hg => rfl); (case hr => first | (go_simp; done) | (go_simp; rfl)); intro gb181 hg w35 hbox hb; have n0_ := Aside0.mk (blk_below (g := gb179) (o := .cells #[.slice A0_0 l0_0.length c0_0, .slice (some ad180) l0_1.length c0_1, .int .i64 a0_2, .int .i64 a0_3] 30 (0, 0)) (by (with_reducible repeat (first | refine blk_drewN ?_ _ | refine blk_drew ?_ | refine blk_alloc ?_ _)); exact BK179.out) hb); have n1_ := Aside0.mk (below_step (by repeat (first | (with_reducible first | exact HB.out | apply below_alloc | apply pw_below_drewN | apply below_drew1 | refine below_set ?_ GE179.out) | exact HB.out)) hb); have n2_ := Aside0.mk (hbox); have n3_ := Aside0.mk ((by rw [hg]; exact (below_size (by repeat (first | (with_reducible first | exact HB.out | apply below_alloc | apply pw_below_drewN | apply below_drew1 | refine below_set ?_ GE179.out) | exact HB.out))) : w.heap.size ≤ gb181)); have n4_ := Aside0.mk ((by rw [hg]; exact (below_size (by repeat (first | (with_reducible first | exact HB.out | apply below_alloc | apply pw_below_drewN | apply below_drew1 | refine below_set ?_ GE179.out) | exact HB.out))) : w.heap.size ≤ gb181)); have n5_ := Aside0.mk ((by rw [hg]; exact Nat.ne_of_lt (blk_lt (g := gb179) (o := .cells #[.slice A0_0 l0_0.length c0_0, .slice (some ad180) l0_1.length c0_1, .int .i64 a0_2, .int .i64 a0_3] 30 (0, 0)) (by (with_reducible repeat (first | refine blk_drewN ?_ _ | refine blk_drew ?_ | refine blk_alloc ?_ _)); exact BK179.out)) : gb179 ≠ gb181)); have n6_ := Aside0.mk ((by rw [hg]; exact Nat.ne_of_gt (blk_lt (g := gb179) (o := .cells #[.slice A0_0 l0_0.length c0_0, .slice (some ad180) l0_1.length c0_1, .int .i64 a0_2, .int .i64 a0_3] 30 (0, 0)) (by (with_reducible repeat (first | refine blk_drewN ?_ _ | refine blk_drew ?_ | refine blk_alloc ?_ _)); exact BK179.out)) : gb181 ≠ gb179)); clear BK179; clear HB; have BK179 := n0_; have HB := n1_; have BK181 := n2_; have GW181 := n3_; have GE181 := n4_; have NB179_181 := n5_; have NB181_179 := n6_; clear n0_ n1_ n2_ n3_ n4_ n5_ n6_; clear hb hbox hg; have hnb36 := NB181_179.out; have hnc36 := NB179_181.out; have hcz37_0 : w35.cell? ⟨gb181, 0, none⟩ = some (.int .i64 0) := (blk_cell BK181.out 0).trans rfl; have hcz37_1 : w35.cell? ⟨gb181, 1, none⟩ = some (.int .i64 0) := (blk_cell BK181.out 1).trans rfl; have hcz37_2 : w35.cell? ⟨gb181, 2, none⟩ = some (.int .i64 0) := (blk_cell BK181.out 2).trans rfl; have hfz37_0 := blk_frozen BK181.out 0; have hfz37_1 := blk_frozen BK181.out 1; have hfz37_2 := blk_frozen BK181.out 2))
                            go_roundg k2
                            case measure => have := HJ1.out; have := HK2.out; omega
                            case rel => exact ⟨(wrap64 (x3_2 + ((rd_T33 l0_1 x39_2).f1))), (wrap64 (x39_2 + 1)), (by first | rfl | (simp; done) | (simp [*]; done)), (by first | rfl | (simp; done) | (simp [*]; done)), H', ⟨by have := HJ1.out; have := HK2.out; omega⟩, ⟨by (with_reducible repeat (first | refine blk_drewN ?_ _ | refine blk_drew ?_ | refine blk_alloc ?_ _)); refine blk_far ?_ NB179_181.out _; (with_reducible repeat (first | refine blk_drewN ?_ _ | refine blk_drew ?_ | refine blk_alloc ?_ _)); refine blk_far ?_ NB179_181.out _; (with_reducible repeat (first | refine blk_drewN ?_ _ | refine blk_drew ?_ | refine blk_alloc ?_ _)); refine blk_far ?_ NB179_181.out _; (with_reducible repeat (first | refine blk_drewN ?_ _ | refine blk_drew ?_ | refine blk_alloc ?_ _)); exact BK179.out⟩, ⟨by repeat (first | (with_reducible first | exact HB.out | apply below_alloc | apply pw_below_drewN | apply below_drew1 | refine below_set ?_ GE179.out | refine below_set ?_ GE181.out) | exact HB.out)⟩⟩
                  · rw [if_neg c18] at H
                    have c18b0 : (((rd_T33 l0_1 x39_2).f0) == x3_2) = false := beq_eq_false_iff_ne.mpr c18
                    have c18b1 : (((rd_T33 l0_1 x39_2).f0) != x3_2) = true := bne_iff_ne.mpr c18
                    obtain rfl := Option.some.inj H
                    have p180 : 0 ≤ (x39_2 : Int) := of_decide_eq_true (by first | (with_reducible assumption) | assumption)
                    have q180 : x39_2 < (l0_1.length : Int) := of_decide_eq_true (by first | (with_reducible assumption) | assumption)
                    obtain ⟨ad180, e180, hx180_0, hx180_1, hx180_2⟩ := at_T33 HR0_1.out x39_2 p180 q180
                    cases e180
                    replace hx180_0 := (HB.out.cell (World.block_lt_of_cell? w _ hx180_0)).trans hx180_0
                    replace hx180_1 := (HB.out.cell (World.block_lt_of_cell? w _ hx180_1)).trans hx180_1
                    replace hx180_2 := (HB.out.cell (World.block_lt_of_cell? w _ hx180_2)).trans hx180_2
                    replace p180 := eq_true p180
                    replace q180 := eq_true q180
                    go_wp2_with (first | ((with_reducible refine gate_dst (N := 5) rfl ?_); (try (refine gate_guard (by rfl) ?_; dsimp only)); refine box_event ?hg (N := 5) ?hd (cs := #[.int .i64 0, .int .i64 0, .int .i64 0]) (t := 33) ?hr ?_; (case hd => rfl); (case hg => rfl); (case hr => first | (go_simp; done) | (go_simp; rfl)); intro gb181 hg w38 hbox hb; have n0_ := Aside0.mk (blk_below (g := gb179) (o := .cells #[.slice A0_0 l0_0.length c0_0, .slice (some ad180) l0_1.length c0_1, .int .i64 a0_2, .int .i64 a0_3] 30 (0, 0)) (by (with_reducible repeat (first | refine blk_drewN ?_ _ | refine blk_drew ?_ | refine blk_alloc ?_ _)); exact BK179.out) hb); have n1_ := Aside0.mk (below_step (by repeat (first | (with_reducible first | exact HB.out | apply below_alloc | apply pw_below_drewN | apply below_drew1 | refine below_set ?_ GE179.out) | exact HB.out)) hb); have n2_ := Aside0.mk (hbox); have n3_ := Aside0.mk ((by rw [hg]; exact (below_size (by repeat (first | (with_reducible first | exact HB.out | apply below_alloc | apply pw_below_drewN | apply below_drew1 | refine below_set ?_ GE179.out) | exact HB.out))) : w.heap.size ≤ gb181)); have n4_ := Aside0.mk ((by rw [hg]; exact (below_size (by repeat (first | (with_reducible first | exact HB.out | apply below_alloc | apply pw_below_drewN | apply below_drew1 | refine below_set ?_ GE179.out) | exact HB.out))) : w.heap.size ≤ gb181)); have n5_ := Aside0.mk ((by rw [hg]; exact Nat.ne_of_lt (blk_lt (g := gb179) (o := .cells #[.slice A0_0 l0_0.length c0_0, .slice (some ad180) l0_1.length c0_1, .int .i64 a0_2, .int .i64 a0_3] 30 (0, 0)) (by (with_reducible repeat (first | refine blk_drewN ?_ _ | refine blk_drew ?_ | refine blk_alloc ?_ _)); exact BK179.out)) : gb179 ≠ gb181)); have n6_ := Aside0.mk ((by rw [hg]; exact Nat.ne_of_gt (blk_lt (g := gb179) (o := .cells #[.slice A0_0 l0_0.length c0_0, .slice (some ad180) l0_1.length c0_1, .int .i64 a0_2, .int .i64 a0_3] 30 (0, 0)) (by (with_reducible repeat (first | refine blk_drewN ?_ _ | refine blk_drew ?_ | refine blk_alloc ?_ _)); exact BK179.out)) : gb181 ≠ gb179)); clear BK179; clear HB; have BK179 := n0_; have HB := n1_; have BK181 := n2_; have GW181 := n3_; have GE181 := n4_; have NB179_181 := n5_; have NB181_179 := n6_; clear n0_ n1_ n2_ n3_ n4_ n5_ n6_; clear hb hbox hg; have hnb39 := NB181_179.out; have hnc39 := NB179_181.out; have hcz40_0 : w38.cell? ⟨gb181, 0, none⟩ = some (.int .i64 0) := (blk_cell BK181.out 0).trans rfl; have hcz40_1 : w38.cell? ⟨gb181, 1, none⟩ = some (.int .i64 0) := (blk_cell BK181.out 1).trans rfl; have hcz40_2 : w38.cell? ⟨gb181, 2, none⟩ = some (.int .i64 0) := (blk_cell BK181.out 2).trans rfl; have hfz40_0 := blk_frozen BK181.out 0; have hfz40_1 := blk_frozen BK181.out 1; have hfz40_2 := blk_frozen BK181.out 2))
                    go_ret
                    exact ⟨by first | rfl | (simp [errW_none, errW_some] <;> rfl) | (simp [*, errW_none, errW_some] <;> rfl), by repeat (first | (with_reducible first | exact HB.out | apply below_alloc | apply pw_below_drewN | apply below_drew1 | refine below_set ?_ GE179.out | refine below_set ?_ GE181.out) | exact HB.out)⟩
                · rw [if_neg c17] at H
                  exact absurd H (by simp)
              · rw [if_neg c16] at H
                exact absurd H (by simp)
            · rw [if_neg c15] at H
              have c15b0 : decide (x39_2 < (l0_1.length : Int)) = false := decide_eq_false c15
              clear c15
              have H' := Aside0.mk H
              clear H
              have hcz41_0 : wr.cell? ⟨gb179, 0, none⟩ = some (.slice A0_0 l0_0.length c0_0) := (blk_cell BK179.out 0).trans rfl
              have hcz41_1 : wr.cell? ⟨gb179, 1, none⟩ = some (.slice A0_1 l0_1.length c0_1) := (blk_cell BK179.out 1).trans rfl
              have hcz41_2 : wr.cell? ⟨gb179, 2, none⟩ = some (.int .i64 a0_2) := (blk_cell BK179.out 2).trans rfl
              have hcz41_3 : wr.cell? ⟨gb179, 3, none⟩ = some (.int .i64 a0_3) := (blk_cell BK179.out 3).trans rfl
              have hfz41_0 := blk_frozen BK179.out 0
              have hfz41_1 := blk_frozen BK179.out 1
              have hfz41_2 := blk_frozen BK179.out 2
              have hfz41_3 := blk_frozen BK179.out 3
              go_wp2
              go_loopg [75] k2 (fun kq v75 w' => ∃ (x75_3 : Int), v75 = .int .i64 x75_3 ∧ Aside0 (palingslaw18_right.l1 kq x3_2 l0_0 (l0_0.length : Int) x75_3 l0_0 l0_1 a0_2 a0_3 = some r) ∧ Aside0 (kq ≤ k2) ∧ Aside0 (w'.heap[gb179]? = some (.cells #[(.slice A0_0 l0_0.length c0_0), (.slice A0_1 l0_1.length c0_1), .int .i64 a0_2, .int .i64 a0_3] 30 (0, 0))) ∧ Aside0 (Below w.heap.size w w'))
              case atStart => exact ⟨(0), (by first | rfl | (simp; done) | (simp [*]; done)), H', ⟨Nat.le_refl _⟩, ⟨by (with_reducible repeat (first | refine blk_drewN ?_ _ | refine blk_drew ?_ | refine blk_alloc ?_ _)); exact BK179.out⟩, ⟨by repeat (first | (with_reducible first | exact HB.out | apply below_alloc | apply pw_below_drewN | apply below_drew1 | refine below_set ?_ GE179.out) | exact HB.out)⟩⟩
              case round =>
                clear H'
                try clear c1
                try clear p1
                try clear q1
                try clear hx1
                try clear c2
                try clear p2
                try clear c3
                try clear c4
                try clear c4b0
                try clear c4b1
                try clear c4b2
                try clear c6
                try clear c6b0
                try clear c6b1
                try clear p6
                try clear c8
                try clear c8b0
                try clear c10
                try clear c10b0
                try clear c13
                try clear c15
                try clear c15b0
                try clear c16
                try clear c16b0
                try clear c17
                try clear c17b0
                try clear c18
                try clear c18b0
                try clear c18b1
                try clear p18
                try clear q18
                try clear hx18
                try clear c19
                try clear c19b0
                try clear c21
                try clear c23
                try clear c23b0
                try clear c25
                try clear c27
                try clear c27b0
                try clear c29
                try clear c31
                try clear c31b0
                try clear c33
                try clear c36
                try clear c39
                try clear hcz11_0
                try clear hcz11_1
                try clear hcz11_2
                try clear hcz11_3
                try clear hcz12_0
                try clear hcz12_1
                try clear hcz12_2
                try clear hcz12_3
                try clear hcz14_0
                try clear hcz14_1
                try clear hcz14_2
                try clear hcz14_3
                try clear hcz22_0
                try clear hcz22_1
                try clear hcz22_2
                try clear hcz26_0
                try clear hcz26_1
                try clear hcz26_2
                try clear hcz30_0
                try clear hcz30_1
                try clear hcz30_2
                try clear hcz34_0
                try clear hcz34_1
                try clear hcz34_2
                try clear hcz37_0
                try clear hcz37_1
                try clear hcz37_2
                try clear hcz40_0
                try clear hcz40_1
                try clear hcz40_2
                try clear hcz41_0
                try clear hcz41_1
                try clear hcz41_2
                try clear hcz41_3
                try clear hcz5_0
                try clear hcz5_1
                try clear hcz5_2
                try clear hcz5_3
                try clear hcz7_0
                try clear hcz7_1
                try clear hcz7_2
                try clear hcz7_3
                try clear hcz9_0
                try clear hcz9_1
                try clear hcz9_2
                try clear hcz9_3
                try clear hfz11_0
                try clear hfz11_1
                try clear hfz11_2
                try clear hfz11_3
                try clear hfz12_0
                try clear hfz12_1
                try clear hfz12_2
                try clear hfz12_3
                try clear hfz14_0
                try clear hfz14_1
                try clear hfz14_2
                try clear hfz14_3
                try clear hfz22_0
                try clear hfz22_1
                try clear hfz22_2
                try clear hfz26_0
                try clear hfz26_1
                try clear hfz26_2
                try clear hfz30_0
                try clear hfz30_1
                try clear hfz30_2
                try clear hfz34_0
                try clear hfz34_1
                try clear hfz34_2
                try clear hfz37_0
                try clear hfz37_1
                try clear hfz37_2
                try clear hfz40_0
                try clear hfz40_1
                try clear hfz40_2
                try clear hfz41_0
                try clear hfz41_1
                try clear hfz41_2
                try clear hfz41_3
                try clear hfz5_0
                try clear hfz5_1
                try clear hfz5_2
                try clear hfz5_3
                try clear hfz7_0
                try clear hfz7_1
                try clear hfz7_2
                try clear hfz7_3
                try clear hfz9_0
                try clear hfz9_1
                try clear hfz9_2
                try clear hfz9_3
                try clear hx180_0
                try clear hx180_1
                try clear hx180_2
                try clear p180
                try clear p2
                try clear q180
                obtain ⟨x75_3, rfl, HA, HK3, BK179, HB⟩ := hrel
                cases gk with
                | zero => exact absurd HA.out (by simp [palingslaw18_right.l1])
                | succ k3 =>
                  have H := HA.out
                  clear HA
                  simp only [palingslaw18_right.l1] at H
                  by_cases c42 : x75_3 < (l0_0.length : Int)
                  · rw [if_pos c42] at H
                    have c42b0 : decide (x75_3 < (l0_0.length : Int)) = true := decide_eq_true c42
                    clear c42
                    by_cases c43 : 0 ≤ x75_3
                    · rw [if_pos c43] at H
                      have c43b0 : decide (0 ≤ x75_3) = true := decide_eq_true c43
                      clear c43
                      by_cases c44 : x75_3 < (l0_0.length : Int)
                      · rw [if_pos c44] at H
                        have c44b0 : decide (x75_3 < (l0_0.length : Int)) = true := decide_eq_true c44
                        clear c44
                        by_cases c45 : ((rd_T26 l0_0 x75_3).f0) = 6
                        · rw [if_pos c45] at H
                          have c45b0 : (((rd_T26 l0_0 x75_3).f0) == 6) = true := beq_iff_eq.mpr c45
                          have c45b1 : (((rd_T26 l0_0 x75_3).f0) != 6) = false := bne_eq_false_iff_eq.mpr c45
                          clear c45
                          replace H := Option.bind_eq_some_iff.mp H
                          obtain ⟨t184, A460, H⟩ := H
                          replace H : (if t184 = true then (if ((rd_T26 l0_0 x75_3).f5) ≥ (l0_0.length : Int) then (some false) else (palingslaw18_right.l1 k3 x3_2 l0_0 (l0_0.length : Int) (wrap64 (x75_3 + 1)) l0_0 l0_1 a0_2 a0_3)) else (some false)) = some r := H
                          have A46 := Aside0.mk A460
                          clear A460
                          by_cases c47 : t184 = true
                          · subst c47
                            have H1 : (if ((rd_T26 l0_0 x75_3).f5) ≥ (l0_0.length : Int) then (some false) else (palingslaw18_right.l1 k3 x3_2 l0_0 (l0_0.length : Int) (wrap64 (x75_3 + 1)) l0_0 l0_1 a0_2 a0_3)) = some r := by rw [if_pos rfl] at H; exact H
                            clear H
                            have H := H1
                            clear H1
                            by_cases c48 : ((rd_T26 l0_0 x75_3).f5) ≥ (l0_0.length : Int)
                            · rw [if_pos c48] at H
                              have c48b0 : decide ((l0_0.length : Int) ≤ ((rd_T26 l0_0 x75_3).f5)) = true := decide_eq_true c48
                              clear c48
                              obtain rfl := Option.some.inj H
                              have p182 : 0 ≤ (x75_3 : Int) := of_decide_eq_true (by first | (with_reducible assumption) | assumption)
                              have q182 : x75_3 < (l0_0.length : Int) := of_decide_eq_true (by first | (with_reducible assumption) | assumption)
                              obtain ⟨ad182, e182, hx182_0, hx182_1, hx182_2, hx182_3, hx182_4, hx182_5⟩ := at_T26 HR0_0.out x75_3 p182 q182
                              cases e182
                              replace hx182_0 := (HB.out.cell (World.block_lt_of_cell? w _ hx182_0)).trans hx182_0
                              replace hx182_1 := (HB.out.cell (World.block_lt_of_cell? w _ hx182_1)).trans hx182_1
                              replace hx182_2 := (HB.out.cell (World.block_lt_of_cell? w _ hx182_2)).trans hx182_2
                              replace hx182_3 := (HB.out.cell (World.block_lt_of_cell? w _ hx182_3)).trans hx182_3
                              replace hx182_4 := (HB.out.cell (World.block_lt_of_cell? w _ hx182_4)).trans hx182_4
                              replace hx182_5 := (HB.out.cell (World.block_lt_of_cell? w _ hx182_5)).trans hx182_5
                              replace p182 := eq_true p182
                              replace q182 := eq_true q182
                              go_wp2_with (first | ((with_reducible refine gate_dst (N := 7) rfl ?_); (try (refine gate_guard (by rfl) ?_; dsimp only)); refine box_event ?hg (N := 7) ?hd (cs := #[.int .i64 0, .int .i64 0, .int .i64 0, .int .i64 0, .int .i64 0, .int .i64 0]) (t := 26) ?hr ?_; (case hd => rfl); (case hg => rfl); (case hr => first | (go_simp; done) | (go_simp; rfl)); intro gb183 hg w49 hbox hb; have n0_ := Aside0.mk (blk_below (g := gb179) (o := .cells #[.slice (some ad182) l0_0.length c0_0, .slice A0_1 l0_1.length c0_1, .int .i64 a0_2, .int .i64 a0_3] 30 (0, 0)) (by (with_reducible repeat (first | refine blk_drewN ?_ _ | refine blk_drew ?_ | refine blk_alloc ?_ _)); exact BK179.out) hb); have n1_ := Aside0.mk (below_step (by repeat (first | (with_reducible first | exact HB.out | apply below_alloc | apply pw_below_drewN | apply below_drew1 | refine below_set ?_ GE179.out) | exact HB.out)) hb); have n2_ := Aside0.mk (hbox); have n3_ := Aside0.mk ((by rw [hg]; exact (below_size (by repeat (first | (with_reducible first | exact HB.out | apply below_alloc | apply pw_below_drewN | apply below_drew1 | refine below_set ?_ GE179.out) | exact HB.out))) : w.heap.size ≤ gb183)); have n4_ := Aside0.mk ((by rw [hg]; exact (below_size (by repeat (first | (with_reducible first | exact HB.out | apply below_alloc | apply pw_below_drewN | apply below_drew1 | refine below_set ?_ GE179.out) | exact HB.out))) : w.heap.size ≤ gb183)); have n5_ := Aside0.mk ((by rw [hg]; exact Nat.ne_of_lt (blk_lt (g := gb179) (o := .cells #[.slice (some ad182) l0_0.length c0_0, .slice A0_1 l0_1.length c0_1, .int .i64 a0_2, .int .i64 a0_3] 30 (0, 0)) (by (with_reducible repeat (first | refine blk_drewN ?_ _ | refine blk_drew ?_ | refine blk_alloc ?_ _)); exact BK179.out)) : gb179 ≠ gb183)); have n6_ := Aside0.mk ((by rw [hg]; exact Nat.ne_of_gt (blk_lt (g := gb179) (o := .cells #[.slice (some ad182) l0_0.length c0_0, .slice A0_1 l0_1.length c0_1, .int .i64 a0_2, .int .i64 a0_3] 30 (0, 0)) (by (with_reducible repeat (first | refine blk_drewN ?_ _ | refine blk_drew ?_ | refine blk_alloc ?_ _)); exact BK179.out)) : gb183 ≠ gb179)); clear BK179; clear HB; have BK179 := n0_; have HB := n1_; have BK183 := n2_; have GW183 := n3_; have GE183 := n4_; have NB179_183 := n5_; have NB183_179 := n6_; clear n0_ n1_ n2_ n3_ n4_ n5_ n6_; clear hb hbox hg; have hnb50 := NB183_179.out; have hnc50 := NB179_183.out; have hcz51_0 : w49.cell? ⟨gb183, 0, none⟩ = some (.int .i64 0) := (blk_cell BK183.out 0).trans rfl; have hcz51_1 : w49.cell? ⟨gb183, 1, none⟩ = some (.int .i64 0) := (blk_cell BK183.out 1).trans rfl; have hcz51_2 : w49.cell? ⟨gb183, 2, none⟩ = some (.int .i64 0) := (blk_cell BK183.out 2).trans rfl; have hcz51_3 : w49.cell? ⟨gb183, 3, none⟩ = some (.int .i64 0) := (blk_cell BK183.out 3).trans rfl; have hcz51_4 : w49.cell? ⟨gb183, 4, none⟩ = some (.int .i64 0) := (blk_cell BK183.out 4).trans rfl; have hcz51_5 : w49.cell? ⟨gb183, 5, none⟩ = some (.int .i64 0) := (blk_cell BK183.out 5).trans rfl; have hfz51_0 := blk_frozen BK183.out 0; have hfz51_1 := blk_frozen BK183.out 1; have hfz51_2 := blk_frozen BK183.out 2; have hfz51_3 := blk_frozen BK183.out 3; have hfz51_4 := blk_frozen BK183.out 4; have hfz51_5 := blk_frozen BK183.out 5) | ((with_reducible refine gate_callee (f := 17) rfl ?_); refine goesL_ (some 93) rfl rfl Try.func17 (by kernel_rfl) rfl #[.agg #[.int .i64 ((rd_T26 l0_0 x75_3).f0), .int .i64 ((rd_T26 l0_0 x75_3).f1), .int .i64 ((rd_T26 l0_0 x75_3).f2), .int .i64 ((rd_T26 l0_0 x75_3).f3), .int .i64 ((rd_T26 l0_0 x75_3).f4), .int .i64 ((rd_T26 l0_0 x75_3).f5)]] rfl (by (try simp only [List.map_toArray, List.map_cons, List.map_nil]); first | done | rfl | (simp only [List.length_drop, List.length_take]; rfl)) ?_; (with_reducible refine (code_Ins_Right.calls k3 ((rd_T26 l0_0 x75_3).f0) ((rd_T26 l0_0 x75_3).f1) ((rd_T26 l0_0 x75_3).f2) ((rd_T26 l0_0 x75_3).f3) ((rd_T26 l0_0 x75_3).f4) ((rd_T26 l0_0 x75_3).f5) true _ A46.out).mono ?_); rintro e w52 ⟨rfl, hb⟩; refine ⟨_, rfl, ?_⟩; have n0_ := Aside0.mk (blk_below (g := gb179) (o := .cells #[.slice (some ad182) l0_0.length c0_0, .slice A0_1 l0_1.length c0_1, .int .i64 a0_2, .int .i64 a0_3] 30 (0, 0)) (by (with_reducible repeat (first | refine blk_drewN ?_ _ | refine blk_drew ?_ | refine blk_alloc ?_ _)); refine blk_far ?_ NB179_183.out _; (with_reducible repeat (first | refine blk_drewN ?_ _ | refine blk_drew ?_ | refine blk_alloc ?_ _)); refine blk_far ?_ NB179_183.out _; (with_reducible repeat (first | refine blk_drewN ?_ _ | refine blk_drew ?_ | refine blk_alloc ?_ _)); refine blk_far ?_ NB179_183.out _; (with_reducible repeat (first | refine blk_drewN ?_ _ | refine blk_drew ?_ | refine blk_alloc ?_ _)); refine blk_far ?_ NB179_183.out _; (with_reducible repeat (first | refine blk_drewN ?_ _ | refine blk_drew ?_ | refine blk_alloc ?_ _)); refine blk_far ?_ NB179_183.out _; (with_reducible repeat (first | refine blk_drewN ?_ _ | refine blk_drew ?_ | refine blk_alloc ?_ _)); refine blk_far ?_ NB179_183.out _; (with_reducible repeat (first | refine blk_drewN ?_ _ | refine blk_drew ?_ | refine blk_alloc ?_ _)); exact BK179.out) hb); have n1_ := Aside0.mk (blk_below (g := gb183) (o := .cells #[.int .i64 ((rd_T26 l0_0 x75_3).f0), .int .i64 ((rd_T26 l0_0 x75_3).f1), .int .i64 ((rd_T26 l0_0 x75_3).f2), .int .i64 ((rd_T26 l0_0 x75_3).f3), .int .i64 ((rd_T26 l0_0 x75_3).f4), .int .i64 ((rd_T26 l0_0 x75_3).f5)] 26 (0, 0)) (by (with_reducible repeat (first | refine blk_drewN ?_ _ | refine blk_drew ?_ | refine blk_alloc ?_ _)); refine blk_put (cs := #[.int .i64 ((rd_T26 l0_0 x75_3).f0), .int .i64 ((rd_T26 l0_0 x75_3).f1), .int .i64 ((rd_T26 l0_0 x75_3).f2), .int .i64 ((rd_T26 l0_0 x75_3).f3), .int .i64 ((rd_T26 l0_0 x75_3).f4), .int .i64 0]) ?_ 5 _ rfl; (with_reducible repeat (first | refine blk_drewN ?_ _ | refine blk_drew ?_ | refine blk_alloc ?_ _)); refine blk_put (cs := #[.int .i64 ((rd_T26 l0_0 x75_3).f0), .int .i64 ((rd_T26 l0_0 x75_3).f1), .int .i64 ((rd_T26 l0_0 x75_3).f2), .int .i64 ((rd_T26 l0_0 x75_3).f3), .int .i64 0, .int .i64 0]) ?_ 4 _ rfl; (with_reducible repeat (first | refine blk_drewN ?_ _ | refine blk_drew ?_ | refine blk_alloc ?_ _)); refine blk_put (cs := #[.int .i64 ((rd_T26 l0_0 x75_3).f0), .int .i64 ((rd_T26 l0_0 x75_3).f1), .int .i64 ((rd_T26 l0_0 x75_3).f2), .int .i64 0, .int .i64 0, .int .i64 0]) ?_ 3 _ rfl; (with_reducible repeat (first | refine blk_drewN ?_ _ | refine blk_drew ?_ | refine blk_alloc ?_ _)); refine blk_put (cs := #[.int .i64 ((rd_T26 l0_0 x75_3).f0), .int .i64 ((rd_T26 l0_0 x75_3).f1), .int .i64 0, .int .i64 0, .int .i64 0, .int .i64 0]) ?_ 2 _ rfl; (with_reducible repeat (first | refine blk_drewN ?_ _ | refine blk_drew ?_ | refine blk_alloc ?_ _)); refine blk_put (cs := #[.int .i64 ((rd_T26 l0_0 x75_3).f0), .int .i64 0, .int .i64 0, .int .i64 0, .int .i64 0, .int .i64 0]) ?_ 1 _ rfl; (with_reducible repeat (first | refine blk_drewN ?_ _ | refine blk_drew ?_ | refine blk_alloc ?_ _)); refine blk_put (cs := #[.int .i64 0, .int .i64 0, .int .i64 0, .int .i64 0, .int .i64 0, .int .i64 0]) ?_ 0 _ rfl; (with_reducible repeat (first | refine blk_drewN ?_ _ | refine blk_drew ?_ | refine blk_alloc ?_ _)); exact BK183.out) hb); have n2_ := Aside0.mk (below_step (by repeat (first | (with_reducible first | exact HB.out | apply below_alloc | apply pw_below_drewN | apply below_drew1 | refine below_set ?_ GE179.out | refine below_set ?_ GE183.out) | exact HB.out)) hb); clear BK179; clear BK183; clear HB; have BK179 := n0_; have BK183 := n1_; have HB := n2_; clear n0_ n1_ n2_; (try clear hb); (try clear hb2); (try clear hk); (try clear hi); have hcz53_0 : w52.cell? ⟨gb183, 0, none⟩ = some (.int .i64 ((rd_T26 l0_0 x75_3).f0)) := (blk_cell BK183.out 0).trans rfl; have hcz53_1 : w52.cell? ⟨gb183, 1, none⟩ = some (.int .i64 ((rd_T26 l0_0 x75_3).f1)) := (blk_cell BK183.out 1).trans rfl; have hcz53_2 : w52.cell? ⟨gb183, 2, none⟩ = some (.int .i64 ((rd_T26 l0_0 x75_3).f2)) := (blk_cell BK183.out 2).trans rfl; have hcz53_3 : w52.cell? ⟨gb183, 3, none⟩ = some (.int .i64 ((rd_T26 l0_0 x75_3).f3)) := (blk_cell BK183.out 3).trans rfl; have hcz53_4 : w52.cell? ⟨gb183, 4, none⟩ = some (.int .i64 ((rd_T26 l0_0 x75_3).f4)) := (blk_cell BK183.out 4).trans rfl; have hcz53_5 : w52.cell? ⟨gb183, 5, none⟩ = some (.int .i64 ((rd_T26 l0_0 x75_3).f5)) := (blk_cell BK183.out 5).trans rfl; have hfz53_0 := blk_frozen BK183.out 0; have hfz53_1 := blk_frozen BK183.out 1; have hfz53_2 := blk_frozen BK183.out 2; have hfz53_3 := blk_frozen BK183.out 3; have hfz53_4 := blk_frozen BK183.out 4; have hfz53_5 := blk_frozen BK183.out 5; have hcz54_0 : w52.cell? ⟨gb179, 0, none⟩ = some (.slice (some ad182) l0_0.length c0_0) := (blk_cell BK179.out 0).trans rfl; have hcz54_1 : w52.cell? ⟨gb179, 1, none⟩ = some (.slice A0_1 l0_1.length c0_1) := (blk_cell BK179.out 1).trans rfl; have hcz54_2 : w52.cell? ⟨gb179, 2, none⟩ = some (.int .i64 a0_2) := (blk_cell BK179.out 2).trans rfl; have hcz54_3 : w52.cell? ⟨gb179, 3, none⟩ = some (.int .i64 a0_3) := (blk_cell BK179.out 3).trans rfl; have hfz54_0 := blk_frozen BK179.out 0; have hfz54_1 := blk_frozen BK179.out 1; have hfz54_2 := blk_frozen BK179.out 2; have hfz54_3 := blk_frozen BK179.out 3))
                              go_ret
                              exact ⟨by first | rfl | (simp [errW_none, errW_some] <;> rfl) | (simp [*, errW_none, errW_some] <;> rfl), by repeat (first | (with_reducible first | exact HB.out | apply below_alloc | apply pw_below_drewN | apply below_drew1 | refine below_set ?_ GE179.out | refine below_set ?_ GE183.out) | exact HB.out)⟩
                            · rw [if_neg c48] at H
                              have c48b0 : decide ((l0_0.length : Int) ≤ ((rd_T26 l0_0 x75_3).f5)) = false := decide_eq_false c48
                              clear c48
                              have H' := Aside0.mk H
                              clear H
                              have p182 : 0 ≤ (x75_3 : Int) := of_decide_eq_true (by first | (with_reducible assumption) | assumption)
                              have q182 : x75_3 < (l0_0.length : Int) := of_decide_eq_true (by first | (with_reducible assumption) | assumption)
                              obtain ⟨ad182, e182, hx182_0, hx182_1, hx182_2, hx182_3, hx182_4, hx182_5⟩ := at_T26 HR0_0.out x75_3 p182 q182
                              cases e182
                              replace hx182_0 := (HB.out.cell (World.block_lt_of_cell? w _ hx182_0)).trans hx182_0
                              replace hx182_1 := (HB.out.cell (World.block_lt_of_cell? w _ hx182_1)).trans hx182_1
                              replace hx182_2 := (HB.out.cell (World.block_lt_of_cell? w _ hx182_2)).trans hx182_2
                              replace hx182_3 := (HB.out.cell (World.block_lt_of_cell? w _ hx182_3)).trans hx182_3
                              replace hx182_4 := (HB.out.cell (World.block_lt_of_cell? w _ hx182_4)).trans hx182_4
                              replace hx182_5 := (HB.out.cell (World.block_lt_of_cell? w _ hx182_5)).trans hx182_5
                              replace p182 := eq_true p182
                              replace q182 := eq_true q182
                              go_wp2_with (first | ((with_reducible refine gate_dst (N := 7) rfl ?_); (try (refine gate_guard (by rfl) ?_; dsimp only)); refine box_event ?hg (N := 7) ?hd (cs := #[.int .i64 0, .int .i64 0, .int .i64 0, .int .i64 0, .int .i64 0, .int .i64 0]) (t := 26) ?hr ?_; (case hd => rfl); (case hg => rfl); (case hr => first | (go_simp; done) | (go_simp; rfl)); intro gb183 hg w55 hbox hb; have n0_ := Aside0.mk (blk_below (g := gb179) (o := .cells #[.slice (some ad182) l0_0.length c0_0, .slice A0_1 l0_1.length c0_1, .int .i64 a0_2, .int .i64 a0_3] 30 (0, 0)) (by (with_reducible repeat (first | refine blk_drewN ?_ _ | refine blk_drew ?_ | refine blk_alloc ?_ _)); exact BK179.out) hb); have n1_ := Aside0.mk (below_step (by repeat (first | (with_reducible first | exact HB.out | apply below_alloc | apply pw_below_drewN | apply below_drew1 | refine below_set ?_ GE179.out) | exact HB.out)) hb); have n2_ := Aside0.mk (hbox); have n3_ := Aside0.mk ((by rw [hg]; exact (below_size (by repeat (first | (with_reducible first | exact HB.out | apply below_alloc | apply pw_below_drewN | apply below_drew1 | refine below_set ?_ GE179.out) | exact HB.out))) : w.heap.size ≤ gb183)); have n4_ := Aside0.mk ((by rw [hg]; exact (below_size (by repeat (first | (with_reducible first | exact HB.out | apply below_alloc | apply pw_below_drewN | apply below_drew1 | refine below_set ?_ GE179.out) | exact HB.out))) : w.heap.size ≤ gb183)); have n5_ := Aside0.mk ((by rw [hg]; exact Nat.ne_of_lt (blk_lt (g := gb179) (o := .cells #[.slice (some ad182) l0_0.length c0_0, .slice A0_1 l0_1.length c0_1, .int .i64 a0_2, .int .i64 a0_3] 30 (0, 0)) (by (with_reducible repeat (first | refine blk_drewN ?_ _ | refine blk_drew ?_ | refine blk_alloc ?_ _)); exact BK179.out)) : gb179 ≠ gb183)); have n6_ := Aside0.mk ((by rw [hg]; exact Nat.ne_of_gt (blk_lt (g := gb179) (o := .cells #[.slice (some ad182) l0_0.length c0_0, .slice A0_1 l0_1.length c0_1, .int .i64 a0_2, .int .i64 a0_3] 30 (0, 0)) (by (with_reducible repeat (first | refine blk_drewN ?_ _ | refine blk_drew ?_ | refine blk_alloc ?_ _)); exact BK179.out)) : gb183 ≠ gb179)); clear BK179; clear HB; have BK179 := n0_; have HB := n1_; have BK183 := n2_; have GW183 := n3_; have GE183 := n4_; have NB179_183 := n5_; have NB183_179 := n6_; clear n0_ n1_ n2_ n3_ n4_ n5_ n6_; clear hb hbox hg; have hnb56 := NB183_179.out; have hnc56 := NB179_183.out; have hcz57_0 : w55.cell? ⟨gb183, 0, none⟩ = some (.int .i64 0) := (blk_cell BK183.out 0).trans rfl; have hcz57_1 : w55.cell? ⟨gb183, 1, none⟩ = some (.int .i64 0) := (blk_cell BK183.out 1).trans rfl; have hcz57_2 : w55.cell? ⟨gb183, 2, none⟩ = some (.int .i64 0) := (blk_cell BK183.out 2).trans rfl; have hcz57_3 : w55.cell? ⟨gb183, 3, none⟩ = some (.int .i64 0) := (blk_cell BK183.out 3).trans rfl; have hcz57_4 : w55.cell? ⟨gb183, 4, none⟩ = some (.int .i64 0) := (blk_cell BK183.out 4).trans rfl; have hcz57_5 : w55.cell? ⟨gb183, 5, none⟩ = some (.int .i64 0) := (blk_cell BK183.out 5).trans rfl; have hfz57_0 := blk_frozen BK183.out 0; have hfz57_1 := blk_frozen BK183.out 1; have hfz57_2 := blk_frozen BK183.out 2; have hfz57_3 := blk_frozen BK183.out 3; have hfz57_4 := blk_frozen BK183.out 4; have hfz57_5 := blk_frozen BK183.out 5) | ((with_reducible refine gate_callee (f := 17) rfl ?_); refine goesL_ (some 93) rfl rfl Try.func17 (by kernel_rfl) rfl #[.agg #[.int .i64 ((rd_T26 l0_0 x75_3).f0), .int .i64 ((rd_T26 l0_0 x75_3).f1), .int .i64 ((rd_T26 l0_0 x75_3).f2), .int .i64 ((rd_T26 l0_0 x75_3).f3), .int .i64 ((rd_T26 l0_0 x75_3).f4), .int .i64 ((rd_T26 l0_0 x75_3).f5)]] rfl (by (try simp only [List.map_toArray, List.map_cons, List.map_nil]); first | done | rfl | (simp only [List.length_drop, List.length_take]; rfl)) ?_; (with_reducible refine (code_Ins_Right.calls k3 ((rd_T26 l0_0 x75_3).f0) ((rd_T26 l0_0 x75_3).f1) ((rd_T26 l0_0 x75_3).f2) ((rd_T26 l0_0 x75_3).f3) ((rd_T26 l0_0 x75_3).f4) ((rd_T26 l0_0 x75_3).f5) true _ A46.out).mono ?_); rintro e w58 ⟨rfl, hb⟩; refine ⟨_, rfl, ?_⟩; have n0_ := Aside0.mk (blk_below (g := gb179) (o := .cells #[.slice (some ad182) l0_0.length c0_0, .slice A0_1 l0_1.length c0_1, .int .i64 a0_2, .int .i64 a0_3] 30 (0, 0)) (by (with_reducible repeat (first | refine blk_drewN ?_ _ | refine blk_drew ?_ | refine blk_alloc ?_ _)); refine blk_far ?_ NB179_183.out _; (with_reducible repeat (first | refine blk_drewN ?_ _ | refine blk_drew ?_ | refine blk_alloc ?_ _)); refine blk_far ?_ NB179_183.out _; (with_reducible repeat (first | refine blk_drewN ?_ _ | refine blk_drew ?_ | refine blk_alloc ?_ _)); refine blk_far ?_ NB179_183.out _; (with_reducible repeat (first | refine blk_drewN ?_ _ | refine blk_drew ?_ | refine blk_alloc ?_ _)); refine blk_far ?_ NB179_183.out _; (with_reducible repeat (first | refine blk_drewN ?_ _ | refine blk_drew ?_ | refine blk_alloc ?_ _)); refine blk_far ?_ NB179_183.out _; (with_reducible repeat (first | refine blk_drewN ?_ _ | refine blk_drew ?_ | refine blk_alloc ?_ _)); refine blk_far ?_ NB179_183.out _; (with_reducible repeat (first | refine blk_drewN ?_ _ | refine blk_drew ?_ | refine blk_alloc ?_ _)); exact BK179.out) hb); have n1_ := Aside0.mk (blk_below (g := gb183) (o := .cells #[.int .i64 ((rd_T26 l0_0 x75_3).f0), .int .i64 ((rd_T26 l0_0 x75_3).f1), .int .i64 ((rd_T26 l0_0 x75_3).f2), .int .i64 ((rd_T26 l0_0 x75_3).f3), .int .i64 ((rd_T26 l0_0 x75_3).f4), .int .i64 ((rd_T26 l0_0 x75_3).f5)] 26 (0, 0)) (by (with_reducible repeat (first | refine blk_drewN ?_ _ | refine blk_drew ?_ | refine blk_alloc ?_ _)); refine blk_put (cs := #[.int .i64 ((rd_T26 l0_0 x75_3).f0), .int .i64 ((rd_T26 l0_0 x75_3).f1), .int .i64 ((rd_T26 l0_0 x75_3).f2), .int .i64 ((rd_T26 l0_0 x75_3).f3), .int .i64 ((rd_T26 l0_0 x75_3).f4), .int .i64 0]) ?_ 5 _ rfl; (with_reducible repeat (first | refine blk_drewN ?_ _ | refine blk_drew ?_ | refine blk_alloc ?_ _)); refine blk_put (cs := #[.int .i64 ((rd_T26 l0_0 x75_3).f0), .int .i64 ((rd_T26 l0_0 x75_3).f1), .int .i64 ((rd_T26 l0_0 x75_3).f2), .int .i64 ((rd_T26 l0_0 x75_3).f3), .int .i64 0, .int .i64 0]) ?_ 4 _ rfl; (with_reducible repeat (first | refine blk_drewN ?_ _ | refine blk_drew ?_ | refine blk_alloc ?_ _)); refine blk_put (cs := #[.int .i64 ((rd_T26 l0_0 x75_3).f0), .int .i64 ((rd_T26 l0_0 x75_3).f1), .int .i64 ((rd_T26 l0_0 x75_3).f2), .int .i64 0, .int .i64 0, .int .i64 0]) ?_ 3 _ rfl; (with_reducible repeat (first | refine blk_drewN ?_ _ | refine blk_drew ?_ | refine blk_alloc ?_ _)); refine blk_put (cs := #[.int .i64 ((rd_T26 l0_0 x75_3).f0), .int .i64 ((rd_T26 l0_0 x75_3).f1), .int .i64 0, .int .i64 0, .int .i64 0, .int .i64 0]) ?_ 2 _ rfl; (with_reducible repeat (first | refine blk_drewN ?_ _ | refine blk_drew ?_ | refine blk_alloc ?_ _)); refine blk_put (cs := #[.int .i64 ((rd_T26 l0_0 x75_3).f0), .int .i64 0, .int .i64 0, .int .i64 0, .int .i64 0, .int .i64 0]) ?_ 1 _ rfl; (with_reducible repeat (first | refine blk_drewN ?_ _ | refine blk_drew ?_ | refine blk_alloc ?_ _)); refine blk_put (cs := #[.int .i64 0, .int .i64 0, .int .i64 0, .int .i64 0, .int .i64 0, .int .i64 0]) ?_ 0 _ rfl; (with_reducible repeat (first | refine blk_drewN ?_ _ | refine blk_drew ?_ | refine blk_alloc ?_ _)); exact BK183.out) hb); have n2_ := Aside0.mk (below_step (by repeat (first | (with_reducible first | exact HB.out | apply below_alloc | apply pw_below_drewN | apply below_drew1 | refine below_set ?_ GE179.out | refine below_set ?_ GE183.out) | exact HB.out)) hb); clear BK179; clear BK183; clear HB; have BK179 := n0_; have BK183 := n1_; have HB := n2_; clear n0_ n1_ n2_; (try clear hb); (try clear hb2); (try clear hk); (try clear hi); have hcz59_0 : w58.cell? ⟨gb183, 0, none⟩ = some (.int .i64 ((rd_T26 l0_0 x75_3).f0)) := (blk_cell BK183.out 0).trans rfl; have hcz59_1 : w58.cell? ⟨gb183, 1, none⟩ = some (.int .i64 ((rd_T26 l0_0 x75_3).f1)) := (blk_cell BK183.out 1).trans rfl; have hcz59_2 : w58.cell? ⟨gb183, 2, none⟩ = some (.int .i64 ((rd_T26 l0_0 x75_3).f2)) := (blk_cell BK183.out 2).trans rfl; have hcz59_3 : w58.cell? ⟨gb183, 3, none⟩ = some (.int .i64 ((rd_T26 l0_0 x75_3).f3)) := (blk_cell BK183.out 3).trans rfl; have hcz59_4 : w58.cell? ⟨gb183, 4, none⟩ = some (.int .i64 ((rd_T26 l0_0 x75_3).f4)) := (blk_cell BK183.out 4).trans rfl; have hcz59_5 : w58.cell? ⟨gb183, 5, none⟩ = some (.int .i64 ((rd_T26 l0_0 x75_3).f5)) := (blk_cell BK183.out 5).trans rfl; have hfz59_0 := blk_frozen BK183.out 0; have hfz59_1 := blk_frozen BK183.out 1; have hfz59_2 := blk_frozen BK183.out 2; have hfz59_3 := blk_frozen BK183.out 3; have hfz59_4 := blk_frozen BK183.out 4; have hfz59_5 := blk_frozen BK183.out 5; have hcz60_0 : w58.cell? ⟨gb179, 0, none⟩ = some (.slice (some ad182) l0_0.length c0_0) := (blk_cell BK179.out 0).trans rfl; have hcz60_1 : w58.cell? ⟨gb179, 1, none⟩ = some (.slice A0_1 l0_1.length c0_1) := (blk_cell BK179.out 1).trans rfl; have hcz60_2 : w58.cell? ⟨gb179, 2, none⟩ = some (.int .i64 a0_2) := (blk_cell BK179.out 2).trans rfl; have hcz60_3 : w58.cell? ⟨gb179, 3, none⟩ = some (.int .i64 a0_3) := (blk_cell BK179.out 3).trans rfl; have hfz60_0 := blk_frozen BK179.out 0; have hfz60_1 := blk_frozen BK179.out 1; have hfz60_2 := blk_frozen BK179.out 2; have hfz60_3 := blk_frozen BK179.out 3))
                              go_roundg k3
                              case measure => have := HJ1.out; have := HK2.out; have := HK3.out; omega
                              case rel => exact ⟨(wrap64 (x75_3 + 1)), (by first | rfl | (simp; done) | (simp [*]; done)), H', ⟨by have := HJ1.out; have := HK2.out; have := HK3.out; omega⟩, ⟨by (with_reducible repeat (first | refine blk_drewN ?_ _ | refine blk_drew ?_ | refine blk_alloc ?_ _)); exact BK179.out⟩, ⟨by repeat (first | (with_reducible first | exact HB.out | apply below_alloc | apply pw_below_drewN | apply below_drew1 | refine below_set ?_ GE179.out | refine below_set ?_ GE183.out) | exact HB.out)⟩⟩
                          · replace c47 := Bool.eq_false_iff.mpr c47
                            subst c47
                            have H1 : (some false) = some r := by rw [if_neg (show ¬ (false = true) by decide)] at H; exact H
                            clear H
                            have H := H1
                            clear H1
                            obtain rfl := Option.some.inj H
                            have p182 : 0 ≤ (x75_3 : Int) := of_decide_eq_true (by first | (with_reducible assumption) | assumption)
                            have q182 : x75_3 < (l0_0.length : Int) := of_decide_eq_true (by first | (with_reducible assumption) | assumption)
                            obtain ⟨ad182, e182, hx182_0, hx182_1, hx182_2, hx182_3, hx182_4, hx182_5⟩ := at_T26 HR0_0.out x75_3 p182 q182
                            cases e182
                            replace hx182_0 := (HB.out.cell (World.block_lt_of_cell? w _ hx182_0)).trans hx182_0
                            replace hx182_1 := (HB.out.cell (World.block_lt_of_cell? w _ hx182_1)).trans hx182_1
                            replace hx182_2 := (HB.out.cell (World.block_lt_of_cell? w _ hx182_2)).trans hx182_2
                            replace hx182_3 := (HB.out.cell (World.block_lt_of_cell? w _ hx182_3)).trans hx182_3
                            replace hx182_4 := (HB.out.cell (World.block_lt_of_cell? w _ hx182_4)).trans hx182_4
                            replace hx182_5 := (HB.out.cell (World.block_lt_of_cell? w _ hx182_5)).trans hx182_5
                            replace p182 := eq_true p182
                            replace q182 := eq_true q182
                            go_wp2_with (first | ((with_reducible refine gate_dst (N := 7) rfl ?_); (try (refine gate_guard (by rfl) ?_; dsimp only)); refine box_event ?hg (N := 7) ?hd (cs := #[.int .i64 0, .int .i64 0, .int .i64 0, .int .i64 0, .int .i64 0, .int .i64 0]) (t := 26) ?hr ?_; (case hd => rfl); (case hg => rfl); (case hr => first | (go_simp; done) | (go_simp; rfl)); intro gb183 hg w61 hbox hb; have n0_ := Aside0.mk (blk_below (g := gb179) (o := .cells #[.slice (some ad182) l0_0.length c0_0, .slice A0_1 l0_1.length c0_1, .int .i64 a0_2, .int .i64 a0_3] 30 (0, 0)) (by (with_reducible repeat (first | refine blk_drewN ?_ _ | refine blk_drew ?_ | refine blk_alloc ?_ _)); exact BK179.out) hb); have n1_ := Aside0.mk (below_step (by repeat (first | (with_reducible first | exact HB.out | apply below_alloc | apply pw_below_drewN | apply below_drew1 | refine below_set ?_ GE179.out) | exact HB.out)) hb); have n2_ := Aside0.mk (hbox); have n3_ := Aside0.mk ((by rw [hg]; exact (below_size (by repeat (first | (with_reducible first | exact HB.out | apply below_alloc | apply pw_below_drewN | apply below_drew1 | refine below_set ?_ GE179.out) | exact HB.out))) : w.heap.size ≤ gb183)); have n4_ := Aside0.mk ((by rw [hg]; exact (below_size (by repeat (first | (with_reducible first | exact HB.out | apply below_alloc | apply pw_below_drewN | apply below_drew1 | refine below_set ?_ GE179.out) | exact HB.out))) : w.heap.size ≤ gb183)); have n5_ := Aside0.mk ((by rw [hg]; exact Nat.ne_of_lt (blk_lt (g := gb179) (o := .cells #[.slice (some ad182) l0_0.length c0_0, .slice A0_1 l0_1.length c0_1, .int .i64 a0_2, .int .i64 a0_3] 30 (0, 0)) (by (with_reducible repeat (first | refine blk_drewN ?_ _ | refine blk_drew ?_ | refine blk_alloc ?_ _)); exact BK179.out)) : gb179 ≠ gb183)); have n6_ := Aside0.mk ((by rw [hg]; exact Nat.ne_of_gt (blk_lt (g := gb179) (o := .cells #[.slice (some ad182) l0_0.length c0_0, .slice A0_1 l0_1.length c0_1, .int .i64 a0_2, .int .i64 a0_3] 30 (0, 0)) (by (with_reducible repeat (first | refine blk_drewN ?_ _ | refine blk_drew ?_ | refine blk_alloc ?_ _)); exact BK179.out)) : gb183 ≠ gb179)); clear BK179; clear HB; have BK179 := n0_; have HB := n1_; have BK183 := n2_; have GW183 := n3_; have GE183 := n4_; have NB179_183 := n5_; have NB183_179 := n6_; clear n0_ n1_ n2_ n3_ n4_ n5_ n6_; clear hb hbox hg; have hnb62 := NB183_179.out; have hnc62 := NB179_183.out; have hcz63_0 : w61.cell? ⟨gb183, 0, none⟩ = some (.int .i64 0) := (blk_cell BK183.out 0).trans rfl; have hcz63_1 : w61.cell? ⟨gb183, 1, none⟩ = some (.int .i64 0) := (blk_cell BK183.out 1).trans rfl; have hcz63_2 : w61.cell? ⟨gb183, 2, none⟩ = some (.int .i64 0) := (blk_cell BK183.out 2).trans rfl; have hcz63_3 : w61.cell? ⟨gb183, 3, none⟩ = some (.int .i64 0) := (blk_cell BK183.out 3).trans rfl; have hcz63_4 : w61.cell? ⟨gb183, 4, none⟩ = some (.int .i64 0) := (blk_cell BK183.out 4).trans rfl; have hcz63_5 : w61.cell? ⟨gb183, 5, none⟩ = some (.int .i64 0) := (blk_cell BK183.out 5).trans rfl; have hfz63_0 := blk_frozen BK183.out 0; have hfz63_1 := blk_frozen BK183.out 1; have hfz63_2 := blk_frozen BK183.out 2; have hfz63_3 := blk_frozen BK183.out 3; have hfz63_4 := blk_frozen BK183.out 4; have hfz63_5 := blk_frozen BK183.out 5) | ((with_reducible refine gate_callee (f := 17) rfl ?_); refine goesL_ (some 93) rfl rfl Try.func17 (by kernel_rfl) rfl #[.agg #[.int .i64 ((rd_T26 l0_0 x75_3).f0), .int .i64 ((rd_T26 l0_0 x75_3).f1), .int .i64 ((rd_T26 l0_0 x75_3).f2), .int .i64 ((rd_T26 l0_0 x75_3).f3), .int .i64 ((rd_T26 l0_0 x75_3).f4), .int .i64 ((rd_T26 l0_0 x75_3).f5)]] rfl (by (try simp only [List.map_toArray, List.map_cons, List.map_nil]); first | done | rfl | (simp only [List.length_drop, List.length_take]; rfl)) ?_; (with_reducible refine (code_Ins_Right.calls k3 ((rd_T26 l0_0 x75_3).f0) ((rd_T26 l0_0 x75_3).f1) ((rd_T26 l0_0 x75_3).f2) ((rd_T26 l0_0 x75_3).f3) ((rd_T26 l0_0 x75_3).f4) ((rd_T26 l0_0 x75_3).f5) false _ A46.out).mono ?_); rintro e w64 ⟨rfl, hb⟩; refine ⟨_, rfl, ?_⟩; have n0_ := Aside0.mk (blk_below (g := gb179) (o := .cells #[.slice (some ad182) l0_0.length c0_0, .slice A0_1 l0_1.length c0_1, .int .i64 a0_2, .int .i64 a0_3] 30 (0, 0)) (by (with_reducible repeat (first | refine blk_drewN ?_ _ | refine blk_drew ?_ | refine blk_alloc ?_ _)); refine blk_far ?_ NB179_183.out _; (with_reducible repeat (first | refine blk_drewN ?_ _ | refine blk_drew ?_ | refine blk_alloc ?_ _)); refine blk_far ?_ NB179_183.out _; (with_reducible repeat (first | refine blk_drewN ?_ _ | refine blk_drew ?_ | refine blk_alloc ?_ _)); refine blk_far ?_ NB179_183.out _; (with_reducible repeat (first | refine blk_drewN ?_ _ | refine blk_drew ?_ | refine blk_alloc ?_ _)); refine blk_far ?_ NB179_183.out _; (with_reducible repeat (first | refine blk_drewN ?_ _ | refine blk_drew ?_ | refine blk_alloc ?_ _)); refine blk_far ?_ NB179_183.out _; (with_reducible repeat (first | refine blk_drewN ?_ _ | refine blk_drew ?_ | refine blk_alloc ?_ _)); refine blk_far ?_ NB179_183.out _; (with_reducible repeat (first | refine blk_drewN ?_ _ | refine blk_drew ?_ | refine blk_alloc ?_ _)); exact BK179.out) hb); have n1_ := Aside0.mk (blk_below (g := gb183) (o := .cells #[.int .i64 ((rd_T26 l0_0 x75_3).f0), .int .i64 ((rd_T26 l0_0 x75_3).f1), .int .i64 ((rd_T26 l0_0 x75_3).f2), .int .i64 ((rd_T26 l0_0 x75_3).f3), .int .i64 ((rd_T26 l0_0 x75_3).f4), .int .i64 ((rd_T26 l0_0 x75_3).f5)] 26 (0, 0)) (by (with_reducible repeat (first | refine blk_drewN ?_ _ | refine blk_drew ?_ | refine blk_alloc ?_ _)); refine blk_put (cs := #[.int .i64 ((rd_T26 l0_0 x75_3).f0), .int .i64 ((rd_T26 l0_0 x75_3).f1), .int .i64 ((rd_T26 l0_0 x75_3).f2), .int .i64 ((rd_T26 l0_0 x75_3).f3), .int .i64 ((rd_T26 l0_0 x75_3).f4), .int .i64 0]) ?_ 5 _ rfl; (with_reducible repeat (first | refine blk_drewN ?_ _ | refine blk_drew ?_ | refine blk_alloc ?_ _)); refine blk_put (cs := #[.int .i64 ((rd_T26 l0_0 x75_3).f0), .int .i64 ((rd_T26 l0_0 x75_3).f1), .int .i64 ((rd_T26 l0_0 x75_3).f2), .int .i64 ((rd_T26 l0_0 x75_3).f3), .int .i64 0, .int .i64 0]) ?_ 4 _ rfl; (with_reducible repeat (first | refine blk_drewN ?_ _ | refine blk_drew ?_ | refine blk_alloc ?_ _)); refine blk_put (cs := #[.int .i64 ((rd_T26 l0_0 x75_3).f0), .int .i64 ((rd_T26 l0_0 x75_3).f1), .int .i64 ((rd_T26 l0_0 x75_3).f2), .int .i64 0, .int .i64 0, .int .i64 0]) ?_ 3 _ rfl; (with_reducible repeat (first | refine blk_drewN ?_ _ | refine blk_drew ?_ | refine blk_alloc ?_ _)); refine blk_put (cs := #[.int .i64 ((rd_T26 l0_0 x75_3).f0), .int .i64 ((rd_T26 l0_0 x75_3).f1), .int .i64 0, .int .i64 0, .int .i64 0, .int .i64 0]) ?_ 2 _ rfl; (with_reducible repeat (first | refine blk_drewN ?_ _ | refine blk_drew ?_ | refine blk_alloc ?_ _)); refine blk_put (cs := #[.int .i64 ((rd_T26 l0_0 x75_3).f0), .int .i64 0, .int .i64 0, .int .i64 0, .int .i64 0, .int .i64 0]) ?_ 1 _ rfl; (with_reducible repeat (first | refine blk_drewN ?_ _ | refine blk_drew ?_ | refine blk_alloc ?_ _)); refine blk_put (cs := #[.int .i64 0, .int .i64 0, .int .i64 0, .int .i64 0, .int .i64 0, .int .i64 0]) ?_ 0 _ rfl; (with_reducible repeat (first | refine blk_drewN ?_ _ | refine blk_drew ?_ | refine blk_alloc ?_ _)); exact BK183.out) hb); have n2_ := Aside0.mk (below_step (by repeat (first | (with_reducible first | exact HB.out | apply below_alloc | apply pw_below_drewN | apply below_drew1 | refine below_set ?_ GE179.out | refine below_set ?_ GE183.out) | exact HB.out)) hb); clear BK179; clear BK183; clear HB; have BK179 := n0_; have BK183 := n1_; have HB := n2_; clear n0_ n1_ n2_; (try clear hb); (try clear hb2); (try clear hk); (try clear hi)))
                            go_ret
                            exact ⟨by first | rfl | (simp [errW_none, errW_some] <;> rfl) | (simp [*, errW_none, errW_some] <;> rfl), by repeat (first | (with_reducible first | exact HB.out | apply below_alloc | apply pw_below_drewN | apply below_drew1 | refine below_set ?_ GE179.out | refine below_set ?_ GE183.out) | exact HB.out)⟩
                        · rw [if_neg c45] at H
                          have c45b0 : (((rd_T26 l0_0 x75_3).f0) == 6) = false := beq_eq_false_iff_ne.mpr c45
                          have c45b1 : (((rd_T26 l0_0 x75_3).f0) != 6) = true := bne_iff_ne.mpr c45
                          by_cases c65 : ((rd_T26 l0_0 x75_3).f0) = 7
                          · rw [if_pos c65] at H
                            have c65b0 : (((rd_T26 l0_0 x75_3).f0) == 7) = true := beq_iff_eq.mpr c65
                            have c65b1 : (((rd_T26 l0_0 x75_3).f0) != 7) = false := bne_eq_false_iff_eq.mpr c65
                            clear c65
                            replace H := Option.bind_eq_some_iff.mp H
                            obtain ⟨t185, A660, H⟩ := H
                            replace H : (if t185 = true then (if ((rd_T26 l0_0 x75_3).f5) ≥ (l0_0.length : Int) then (some false) else (palingslaw18_right.l1 k3 x3_2 l0_0 (l0_0.length : Int) (wrap64 (x75_3 + 1)) l0_0 l0_1 a0_2 a0_3)) else (some false)) = some r := H
                            have A66 := Aside0.mk A660
                            clear A660
                            by_cases c67 : t185 = true
                            · subst c67
                              have H1 : (if ((rd_T26 l0_0 x75_3).f5) ≥ (l0_0.length : Int) then (some false) else (palingslaw18_right.l1 k3 x3_2 l0_0 (l0_0.length : Int) (wrap64 (x75_3 + 1)) l0_0 l0_1 a0_2 a0_3)) = some r := by rw [if_pos rfl] at H; exact H
                              clear H
                              have H := H1
                              clear H1
                              by_cases c68 : ((rd_T26 l0_0 x75_3).f5) ≥ (l0_0.length : Int)
                              · rw [if_pos c68] at H
                                have c68b0 : decide ((l0_0.length : Int) ≤ ((rd_T26 l0_0 x75_3).f5)) = true := decide_eq_true c68
                                clear c68
                                obtain rfl := Option.some.inj H
                                have p182 : 0 ≤ (x75_3 : Int) := of_decide_eq_true (by first | (with_reducible assumption) | assumption)
                                have q182 : x75_3 < (l0_0.length : Int) := of_decide_eq_true (by first | (with_reducible assumption) | assumption)
                                obtain ⟨ad182, e182, hx182_0, hx182_1, hx182_2, hx182_3, hx182_4, hx182_5⟩ := at_T26 HR0_0.out x75_3 p182 q182
                                cases e182
                                replace hx182_0 := (HB.out.cell (World.block_lt_of_cell? w _ hx182_0)).trans hx182_0
                                replace hx182_1 := (HB.out.cell (World.block_lt_of_cell? w _ hx182_1)).trans hx182_1
                                replace hx182_2 := (HB.out.cell (World.block_lt_of_cell? w _ hx182_2)).trans hx182_2
                                replace hx182_3 := (HB.out.cell (World.block_lt_of_cell? w _ hx182_3)).trans hx182_3
                                replace hx182_4 := (HB.out.cell (World.block_lt_of_cell? w _ hx182_4)).trans hx182_4
                                replace hx182_5 := (HB.out.cell (World.block_lt_of_cell? w _ hx182_5)).trans hx182_5
                                replace p182 := eq_true p182
                                replace q182 := eq_true q182
                                go_wp2_with (first | ((with_reducible refine gate_dst (N := 7) rfl ?_); (try (refine gate_guard (by rfl) ?_; dsimp only)); refine box_event ?hg (N := 7) ?hd (cs := #[.int .i64 0, .int .i64 0, .int .i64 0, .int .i64 0, .int .i64 0, .int .i64 0]) (t := 26) ?hr ?_; (case hd => rfl); (case hg => rfl); (case hr => first | (go_simp; done) | (go_simp; rfl)); intro gb183 hg w69 hbox hb; have n0_ := Aside0.mk (blk_below (g := gb179) (o := .cells #[.slice (some ad182) l0_0.length c0_0, .slice A0_1 l0_1.length c0_1, .int .i64 a0_2, .int .i64 a0_3] 30 (0, 0)) (by (with_reducible repeat (first | refine blk_drewN ?_ _ | refine blk_drew ?_ | refine blk_alloc ?_ _)); exact BK179.out) hb); have n1_ := Aside0.mk (below_step (by repeat (first | (with_reducible first | exact HB.out | apply below_alloc | apply pw_below_drewN | apply below_drew1 | refine below_set ?_ GE179.out) | exact HB.out)) hb); have n2_ := Aside0.mk (hbox); have n3_ := Aside0.mk ((by rw [hg]; exact (below_size (by repeat (first | (with_reducible first | exact HB.out | apply below_alloc | apply pw_below_drewN | apply below_drew1 | refine below_set ?_ GE179.out) | exact HB.out))) : w.heap.size ≤ gb183)); have n4_ := Aside0.mk ((by rw [hg]; exact (below_size (by repeat (first | (with_reducible first | exact HB.out | apply below_alloc | apply pw_below_drewN | apply below_drew1 | refine below_set ?_ GE179.out) | exact HB.out))) : w.heap.size ≤ gb183)); have n5_ := Aside0.mk ((by rw [hg]; exact Nat.ne_of_lt (blk_lt (g := gb179) (o := .cells #[.slice (some ad182) l0_0.length c0_0, .slice A0_1 l0_1.length c0_1, .int .i64 a0_2, .int .i64 a0_3] 30 (0, 0)) (by (with_reducible repeat (first | refine blk_drewN ?_ _ | refine blk_drew ?_ | refine blk_alloc ?_ _)); exact BK179.out)) : gb179 ≠ gb183)); have n6_ := Aside0.mk ((by rw [hg]; exact Nat.ne_of_gt (blk_lt (g := gb179) (o := .cells #[.slice (some ad182) l0_0.length c0_0, .slice A0_1 l0_1.length c0_1, .int .i64 a0_2, .int .i64 a0_3] 30 (0, 0)) (by (with_reducible repeat (first | refine blk_drewN ?_ _ | refine blk_drew ?_ | refine blk_alloc ?_ _)); exact BK179.out)) : gb183 ≠ gb179)); clear BK179; clear HB; have BK179 := n0_; have HB := n1_; have BK183 := n2_; have GW183 := n3_; have GE183 := n4_; have NB179_183 := n5_; have NB183_179 := n6_; clear n0_ n1_ n2_ n3_ n4_ n5_ n6_; clear hb hbox hg; have hnb70 := NB183_179.out; have hnc70 := NB179_183.out; have hcz71_0 : w69.cell? ⟨gb183, 0, none⟩ = some (.int .i64 0) := (blk_cell BK183.out 0).trans rfl; have hcz71_1 : w69.cell? ⟨gb183, 1, none⟩ = some (.int .i64 0) := (blk_cell BK183.out 1).trans rfl; have hcz71_2 : w69.cell? ⟨gb183, 2, none⟩ = some (.int .i64 0) := (blk_cell BK183.out 2).trans rfl; have hcz71_3 : w69.cell? ⟨gb183, 3, none⟩ = some (.int .i64 0) := (blk_cell BK183.out 3).trans rfl; have hcz71_4 : w69.cell? ⟨gb183, 4, none⟩ = some (.int .i64 0) := (blk_cell BK183.out 4).trans rfl; have hcz71_5 : w69.cell? ⟨gb183, 5, none⟩ = some (.int .i64 0) := (blk_cell BK183.out 5).trans rfl; have hfz71_0 := blk_frozen BK183.out 0; have hfz71_1 := blk_frozen BK183.out 1; have hfz71_2 := blk_frozen BK183.out 2; have hfz71_3 := blk_frozen BK183.out 3; have hfz71_4 := blk_frozen BK183.out 4; have hfz71_5 := blk_frozen BK183.out 5) | ((with_reducible refine gate_callee (f := 17) rfl ?_); refine goesL_ (some 93) rfl rfl Try.func17 (by kernel_rfl) rfl #[.agg #[.int .i64 ((rd_T26 l0_0 x75_3).f0), .int .i64 ((rd_T26 l0_0 x75_3).f1), .int .i64 ((rd_T26 l0_0 x75_3).f2), .int .i64 ((rd_T26 l0_0 x75_3).f3), .int .i64 ((rd_T26 l0_0 x75_3).f4), .int .i64 ((rd_T26 l0_0 x75_3).f5)]] rfl (by (try simp only [List.map_toArray, List.map_cons, List.map_nil]); first | done | rfl | (simp only [List.length_drop, List.length_take]; rfl)) ?_; (with_reducible refine (code_Ins_Right.calls k3 ((rd_T26 l0_0 x75_3).f0) ((rd_T26 l0_0 x75_3).f1) ((rd_T26 l0_0 x75_3).f2) ((rd_T26 l0_0 x75_3).f3) ((rd_T26 l0_0 x75_3).f4) ((rd_T26 l0_0 x75_3).f5) true _ A66.out).mono ?_); rintro e w72 ⟨rfl, hb⟩; refine ⟨_, rfl, ?_⟩; have n0_ := Aside0.mk (blk_below (g := gb179) (o := .cells #[.slice (some ad182) l0_0.length c0_0, .slice A0_1 l0_1.length c0_1, .int .i64 a0_2, .int .i64 a0_3] 30 (0, 0)) (by (with_reducible repeat (first | refine blk_drewN ?_ _ | refine blk_drew ?_ | refine blk_alloc ?_ _)); refine blk_far ?_ NB179_183.out _; (with_reducible repeat (first | refine blk_drewN ?_ _ | refine blk_drew ?_ | refine blk_alloc ?_ _)); refine blk_far ?_ NB179_183.out _; (with_reducible repeat (first | refine blk_drewN ?_ _ | refine blk_drew ?_ | refine blk_alloc ?_ _)); refine blk_far ?_ NB179_183.out _; (with_reducible repeat (first | refine blk_drewN ?_ _ | refine blk_drew ?_ | refine blk_alloc ?_ _)); refine blk_far ?_ NB179_183.out _; (with_reducible repeat (first | refine blk_drewN ?_ _ | refine blk_drew ?_ | refine blk_alloc ?_ _)); refine blk_far ?_ NB179_183.out _; (with_reducible repeat (first | refine blk_drewN ?_ _ | refine blk_drew ?_ | refine blk_alloc ?_ _)); refine blk_far ?_ NB179_183.out _; (with_reducible repeat (first | refine blk_drewN ?_ _ | refine blk_drew ?_ | refine blk_alloc ?_ _)); exact BK179.out) hb); have n1_ := Aside0.mk (blk_below (g := gb183) (o := .cells #[.int .i64 ((rd_T26 l0_0 x75_3).f0), .int .i64 ((rd_T26 l0_0 x75_3).f1), .int .i64 ((rd_T26 l0_0 x75_3).f2), .int .i64 ((rd_T26 l0_0 x75_3).f3), .int .i64 ((rd_T26 l0_0 x75_3).f4), .int .i64 ((rd_T26 l0_0 x75_3).f5)] 26 (0, 0)) (by (with_reducible repeat (first | refine blk_drewN ?_ _ | refine blk_drew ?_ | refine blk_alloc ?_ _)); refine blk_put (cs := #[.int .i64 ((rd_T26 l0_0 x75_3).f0), .int .i64 ((rd_T26 l0_0 x75_3).f1), .int .i64 ((rd_T26 l0_0 x75_3).f2), .int .i64 ((rd_T26 l0_0 x75_3).f3), .int .i64 ((rd_T26 l0_0 x75_3).f4), .int .i64 0]) ?_ 5 _ rfl; (with_reducible repeat (first | refine blk_drewN ?_ _ | refine blk_drew ?_ | refine blk_alloc ?_ _)); refine blk_put (cs := #[.int .i64 ((rd_T26 l0_0 x75_3).f0), .int .i64 ((rd_T26 l0_0 x75_3).f1), .int .i64 ((rd_T26 l0_0 x75_3).f2), .int .i64 ((rd_T26 l0_0 x75_3).f3), .int .i64 0, .int .i64 0]) ?_ 4 _ rfl; (with_reducible repeat (first | refine blk_drewN ?_ _ | refine blk_drew ?_ | refine blk_alloc ?_ _)); refine blk_put (cs := #[.int .i64 ((rd_T26 l0_0 x75_3).f0), .int .i64 ((rd_T26 l0_0 x75_3).f1), .int .i64 ((rd_T26 l0_0 x75_3).f2), .int .i64 0, .int .i64 0, .int .i64 0]) ?_ 3 _ rfl; (with_reducible repeat (first | refine blk_drewN ?_ _ | refine blk_drew ?_ | refine blk_alloc ?_ _)); refine blk_put (cs := #[.int .i64 ((rd_T26 l0_0 x75_3).f0), .int .i64 ((rd_T26 l0_0 x75_3).f1), .int .i64 0, .int .i64 0, .int .i64 0, .int .i64 0]) ?_ 2 _ rfl; (with_reducible repeat (first | refine blk_drewN ?_ _ | refine blk_drew ?_ | refine blk_alloc ?_ _)); refine blk_put (cs := #[.int .i64 ((rd_T26 l0_0 x75_3).f0), .int .i64 0, .int .i64 0, .int .i64 0, .int .i64 0, .int .i64 0]) ?_ 1 _ rfl; (with_reducible repeat (first | refine blk_drewN ?_ _ | refine blk_drew ?_ | refine blk_alloc ?_ _)); refine blk_put (cs := #[.int .i64 0, .int .i64 0, .int .i64 0, .int .i64 0, .int .i64 0, .int .i64 0]) ?_ 0 _ rfl; (with_reducible repeat (first | refine blk_drewN ?_ _ | refine blk_drew ?_ | refine blk_alloc ?_ _)); exact BK183.out) hb); have n2_ := Aside0.mk (below_step (by repeat (first | (with_reducible first | exact HB.out | apply below_alloc | apply pw_below_drewN | apply below_drew1 | refine below_set ?_ GE179.out | refine below_set ?_ GE183.out) | exact HB.out)) hb); clear BK179; clear BK183; clear HB; have BK179 := n0_; have BK183 := n1_; have HB := n2_; clear n0_ n1_ n2_; (try clear hb); (try clear hb2); (try clear hk); (try clear hi); have hcz73_0 : w72.cell? ⟨gb183, 0, none⟩ = some (.int .i64 ((rd_T26 l0_0 x75_3).f0)) := (blk_cell BK183.out 0).trans rfl; have hcz73_1 : w72.cell? ⟨gb183, 1, none⟩ = some (.int .i64 ((rd_T26 l0_0 x75_3).f1)) := (blk_cell BK183.out 1).trans rfl; have hcz73_2 : w72.cell? ⟨gb183, 2, none⟩ = some (.int .i64 ((rd_T26 l0_0 x75_3).f2)) := (blk_cell BK183.out 2).trans rfl; have hcz73_3 : w72.cell? ⟨gb183, 3, none⟩ = some (.int .i64 ((rd_T26 l0_0 x75_3).f3)) := (blk_cell BK183.out 3).trans rfl; have hcz73_4 : w72.cell? ⟨gb183, 4, none⟩ = some (.int .i64 ((rd_T26 l0_0 x75_3).f4)) := (blk_cell BK183.out 4).trans rfl; have hcz73_5 : w72.cell? ⟨gb183, 5, none⟩ = some (.int .i64 ((rd_T26 l0_0 x75_3).f5)) := (blk_cell BK183.out 5).trans rfl; have hfz73_0 := blk_frozen BK183.out 0; have hfz73_1 := blk_frozen BK183.out 1; have hfz73_2 := blk_frozen BK183.out 2; have hfz73_3 := blk_frozen BK183.out 3; have hfz73_4 := blk_frozen BK183.out 4; have hfz73_5 := blk_frozen BK183.out 5; have hcz74_0 : w72.cell? ⟨gb179, 0, none⟩ = some (.slice (some ad182) l0_0.length c0_0) := (blk_cell BK179.out 0).trans rfl; have hcz74_1 : w72.cell? ⟨gb179, 1, none⟩ = some (.slice A0_1 l0_1.length c0_1) := (blk_cell BK179.out 1).trans rfl; have hcz74_2 : w72.cell? ⟨gb179, 2, none⟩ = some (.int .i64 a0_2) := (blk_cell BK179.out 2).trans rfl; have hcz74_3 : w72.cell? ⟨gb179, 3, none⟩ = some (.int .i64 a0_3) := (blk_cell BK179.out 3).trans rfl; have hfz74_0 := blk_frozen BK179.out 0; have hfz74_1 := blk_frozen BK179.out 1; have hfz74_2 := blk_frozen BK179.out 2; have hfz74_3 := blk_frozen BK179.out 3))
                                go_ret
                                exact ⟨by first | rfl | (simp [errW_none, errW_some] <;> rfl) | (simp [*, errW_none, errW_some] <;> rfl), by repeat (first | (with_reducible first | exact HB.out | apply below_alloc | apply pw_below_drewN | apply below_drew1 | refine below_set ?_ GE179.out | refine below_set ?_ GE183.out) | exact HB.out)⟩
                              · rw [if_neg c68] at H
                                have c68b0 : decide ((l0_0.length : Int) ≤ ((rd_T26 l0_0 x75_3).f5)) = false := decide_eq_false c68
                                clear c68
                                have H' := Aside0.mk H
                                clear H
                                have p182 : 0 ≤ (x75_3 : Int) := of_decide_eq_true (by first | (with_reducible assumption) | assumption)
                                have q182 : x75_3 < (l0_0.length : Int) := of_decide_eq_true (by first | (with_reducible assumption) | assumption)
                                obtain ⟨ad182, e182, hx182_0, hx182_1, hx182_2, hx182_3, hx182_4, hx182_5⟩ := at_T26 HR0_0.out x75_3 p182 q182
                                cases e182
                                replace hx182_0 := (HB.out.cell (World.block_lt_of_cell? w _ hx182_0)).trans hx182_0
                                replace hx182_1 := (HB.out.cell (World.block_lt_of_cell? w _ hx182_1)).trans hx182_1
                                replace hx182_2 := (HB.out.cell (World.block_lt_of_cell? w _ hx182_2)).trans hx182_2
                                replace hx182_3 := (HB.out.cell (World.block_lt_of_cell? w _ hx182_3)).trans hx182_3
                                replace hx182_4 := (HB.out.cell (World.block_lt_of_cell? w _ hx182_4)).trans hx182_4
                                replace hx182_5 := (HB.out.cell (World.block_lt_of_cell? w _ hx182_5)).trans hx182_5
                                replace p182 := eq_true p182
                                replace q182 := eq_true q182
                                go_wp2_with (first | ((with_reducible refine gate_dst (N := 7) rfl ?_); (try (refine gate_guard (by rfl) ?_; dsimp only)); refine box_event ?hg (N := 7) ?hd (cs := #[.int .i64 0, .int .i64 0, .int .i64 0, .int .i64 0, .int .i64 0, .int .i64 0]) (t := 26) ?hr ?_; (case hd => rfl); (case hg => rfl); (case hr => first | (go_simp; done) | (go_simp; rfl)); intro gb183 hg w75 hbox hb; have n0_ := Aside0.mk (blk_below (g := gb179) (o := .cells #[.slice (some ad182) l0_0.length c0_0, .slice A0_1 l0_1.length c0_1, .int .i64 a0_2, .int .i64 a0_3] 30 (0, 0)) (by (with_reducible repeat (first | refine blk_drewN ?_ _ | refine blk_drew ?_ | refine blk_alloc ?_ _)); exact BK179.out) hb); have n1_ := Aside0.mk (below_step (by repeat (first | (with_reducible first | exact HB.out | apply below_alloc | apply pw_below_drewN | apply below_drew1 | refine below_set ?_ GE179.out) | exact HB.out)) hb); have n2_ := Aside0.mk (hbox); have n3_ := Aside0.mk ((by rw [hg]; exact (below_size (by repeat (first | (with_reducible first | exact HB.out | apply below_alloc | apply pw_below_drewN | apply below_drew1 | refine below_set ?_ GE179.out) | exact HB.out))) : w.heap.size ≤ gb183)); have n4_ := Aside0.mk ((by rw [hg]; exact (below_size (by repeat (first | (with_reducible first | exact HB.out | apply below_alloc | apply pw_below_drewN | apply below_drew1 | refine below_set ?_ GE179.out) | exact HB.out))) : w.heap.size ≤ gb183)); have n5_ := Aside0.mk ((by rw [hg]; exact Nat.ne_of_lt (blk_lt (g := gb179) (o := .cells #[.slice (some ad182) l0_0.length c0_0, .slice A0_1 l0_1.length c0_1, .int .i64 a0_2, .int .i64 a0_3] 30 (0, 0)) (by (with_reducible repeat (first | refine blk_drewN ?_ _ | refine blk_drew ?_ | refine blk_alloc ?_ _)); exact BK179.out)) : gb179 ≠ gb183)); have n6_ := Aside0.mk ((by rw [hg]; exact Nat.ne_of_gt (blk_lt (g := gb179) (o := .cells #[.slice (some ad182) l0_0.length c0_0, .slice A0_1 l0_1.length c0_1, .int .i64 a0_2, .int .i64 a0_3] 30 (0, 0)) (by (with_reducible repeat (first | refine blk_drewN ?_ _ | refine blk_drew ?_ | refine blk_alloc ?_ _)); exact BK179.out)) : gb183 ≠ gb179)); clear BK179; clear HB; have BK179 := n0_; have HB := n1_; have BK183 := n2_; have GW183 := n3_; have GE183 := n4_; have NB179_183 := n5_; have NB183_179 := n6_; clear n0_ n1_ n2_ n3_ n4_ n5_ n6_; clear hb hbox hg; have hnb76 := NB183_179.out; have hnc76 := NB179_183.out; have hcz77_0 : w75.cell? ⟨gb183, 0, none⟩ = some (.int .i64 0) := (blk_cell BK183.out 0).trans rfl; have hcz77_1 : w75.cell? ⟨gb183, 1, none⟩ = some (.int .i64 0) := (blk_cell BK183.out 1).trans rfl; have hcz77_2 : w75.cell? ⟨gb183, 2, none⟩ = some (.int .i64 0) := (blk_cell BK183.out 2).trans rfl; have hcz77_3 : w75.cell? ⟨gb183, 3, none⟩ = some (.int .i64 0) := (blk_cell BK183.out 3).trans rfl; have hcz77_4 : w75.cell? ⟨gb183, 4, none⟩ = some (.int .i64 0) := (blk_cell BK183.out 4).trans rfl; have hcz77_5 : w75.cell? ⟨gb183, 5, none⟩ = some (.int .i64 0) := (blk_cell BK183.out 5).trans rfl; have hfz77_0 := blk_frozen BK183.out 0; have hfz77_1 := blk_frozen BK183.out 1; have hfz77_2 := blk_frozen BK183.out 2; have hfz77_3 := blk_frozen BK183.out 3; have hfz77_4 := blk_frozen BK183.out 4; have hfz77_5 := blk_frozen BK183.out 5) | ((with_reducible refine gate_callee (f := 17) rfl ?_); refine goesL_ (some 93) rfl rfl Try.func17 (by kernel_rfl) rfl #[.agg #[.int .i64 ((rd_T26 l0_0 x75_3).f0), .int .i64 ((rd_T26 l0_0 x75_3).f1), .int .i64 ((rd_T26 l0_0 x75_3).f2), .int .i64 ((rd_T26 l0_0 x75_3).f3), .int .i64 ((rd_T26 l0_0 x75_3).f4), .int .i64 ((rd_T26 l0_0 x75_3).f5)]] rfl (by (try simp only [List.map_toArray, List.map_cons, List.map_nil]); first | done | rfl | (simp only [List.length_drop, List.length_take]; rfl)) ?_; (with_reducible refine (code_Ins_Right.calls k3 ((rd_T26 l0_0 x75_3).f0) ((rd_T26 l0_0 x75_3).f1) ((rd_T26 l0_0 x75_3).f2) ((rd_T26 l0_0 x75_3).f3) ((rd_T26 l0_0 x75_3).f4) ((rd_T26 l0_0 x75_3).f5) true _ A66.out).mono ?_); rintro e w78 ⟨rfl, hb⟩; refine ⟨_, rfl, ?_⟩; have n0_ := Aside0.mk (blk_below (g := gb179) (o := .cells #[.slice (some ad182) l0_0.length c0_0, .slice A0_1 l0_1.length c0_1, .int .i64 a0_2, .int .i64 a0_3] 30 (0, 0)) (by (with_reducible repeat (first | refine blk_drewN ?_ _ | refine blk_drew ?_ | refine blk_alloc ?_ _)); refine blk_far ?_ NB179_183.out _; (with_reducible repeat (first | refine blk_drewN ?_ _ | refine blk_drew ?_ | refine blk_alloc ?_ _)); refine blk_far ?_ NB179_183.out _; (with_reducible repeat (first | refine blk_drewN ?_ _ | refine blk_drew ?_ | refine blk_alloc ?_ _)); refine blk_far ?_ NB179_183.out _; (with_reducible repeat (first | refine blk_drewN ?_ _ | refine blk_drew ?_ | refine blk_alloc ?_ _)); refine blk_far ?_ NB179_183.out _; (with_reducible repeat (first | refine blk_drewN ?_ _ | refine blk_drew ?_ | refine blk_alloc ?_ _)); refine blk_far ?_ NB179_183.out _; (with_reducible repeat (first | refine blk_drewN ?_ _ | refine blk_drew ?_ | refine blk_alloc ?_ _)); refine blk_far ?_ NB179_183.out _; (with_reducible repeat (first | refine blk_drewN ?_ _ | refine blk_drew ?_ | refine blk_alloc ?_ _)); exact BK179.out) hb); have n1_ := Aside0.mk (blk_below (g := gb183) (o := .cells #[.int .i64 ((rd_T26 l0_0 x75_3).f0), .int .i64 ((rd_T26 l0_0 x75_3).f1), .int .i64 ((rd_T26 l0_0 x75_3).f2), .int .i64 ((rd_T26 l0_0 x75_3).f3), .int .i64 ((rd_T26 l0_0 x75_3).f4), .int .i64 ((rd_T26 l0_0 x75_3).f5)] 26 (0, 0)) (by (with_reducible repeat (first | refine blk_drewN ?_ _ | refine blk_drew ?_ | refine blk_alloc ?_ _)); refine blk_put (cs := #[.int .i64 ((rd_T26 l0_0 x75_3).f0), .int .i64 ((rd_T26 l0_0 x75_3).f1), .int .i64 ((rd_T26 l0_0 x75_3).f2), .int .i64 ((rd_T26 l0_0 x75_3).f3), .int .i64 ((rd_T26 l0_0 x75_3).f4), .int .i64 0]) ?_ 5 _ rfl; (with_reducible repeat (first | refine blk_drewN ?_ _ | refine blk_drew ?_ | refine blk_alloc ?_ _)); refine blk_put (cs := #[.int .i64 ((rd_T26 l0_0 x75_3).f0), .int .i64 ((rd_T26 l0_0 x75_3).f1), .int .i64 ((rd_T26 l0_0 x75_3).f2), .int .i64 ((rd_T26 l0_0 x75_3).f3), .int .i64 0, .int .i64 0]) ?_ 4 _ rfl; (with_reducible repeat (first | refine blk_drewN ?_ _ | refine blk_drew ?_ | refine blk_alloc ?_ _)); refine blk_put (cs := #[.int .i64 ((rd_T26 l0_0 x75_3).f0), .int .i64 ((rd_T26 l0_0 x75_3).f1), .int .i64 ((rd_T26 l0_0 x75_3).f2), .int .i64 0, .int .i64 0, .int .i64 0]) ?_ 3 _ rfl; (with_reducible repeat (first | refine blk_drewN ?_ _ | refine blk_drew ?_ | refine blk_alloc ?_ _)); refine blk_put (cs := #[.int .i64 ((rd_T26 l0_0 x75_3).f0), .int .i64 ((rd_T26 l0_0 x75_3).f1), .int .i64 0, .int .i64 0, .int .i64 0, .int .i64 0]) ?_ 2 _ rfl; (with_reducible repeat (first | refine blk_drewN ?_ _ | refine blk_drew ?_ | refine blk_alloc ?_ _)); refine blk_put (cs := #[.int .i64 ((rd_T26 l0_0 x75_3).f0), .int .i64 0, .int .i64 0, .int .i64 0, .int .i64 0, .int .i64 0]) ?_ 1 _ rfl; (with_reducible repeat (first | refine blk_drewN ?_ _ | refine blk_drew ?_ | refine blk_alloc ?_ _)); refine blk_put (cs := #[.int .i64 0, .int .i64 0, .int .i64 0, .int .i64 0, .int .i64 0, .int .i64 0]) ?_ 0 _ rfl; (with_reducible repeat (first | refine blk_drewN ?_ _ | refine blk_drew ?_ | refine blk_alloc ?_ _)); exact BK183.out) hb); have n2_ := Aside0.mk (below_step (by repeat (first | (with_reducible first | exact HB.out | apply below_alloc | apply pw_below_drewN | apply below_drew1 | refine below_set ?_ GE179.out | refine below_set ?_ GE183.out) | exact HB.out)) hb); clear BK179; clear BK183; clear HB; have BK179 := n0_; have BK183 := n1_; have HB := n2_; clear n0_ n1_ n2_; (try clear hb); (try clear hb2); (try clear hk); (try clear hi); have hcz79_0 : w78.cell? ⟨gb183, 0, none⟩ = some (.int .i64 ((rd_T26 l0_0 x75_3).f0)) := (blk_cell BK183.out 0).trans rfl; have hcz79_1 : w78.cell? ⟨gb183, 1, none⟩ = some (.int .i64 ((rd_T26 l0_0 x75_3).f1)) := (blk_cell BK183.out 1).trans rfl; have hcz79_2 : w78.cell? ⟨gb183, 2, none⟩ = some (.int .i64 ((rd_T26 l0_0 x75_3).f2)) := (blk_cell BK183.out 2).trans rfl; have hcz79_3 : w78.cell? ⟨gb183, 3, none⟩ = some (.int .i64 ((rd_T26 l0_0 x75_3).f3)) := (blk_cell BK183.out 3).trans rfl; have hcz79_4 : w78.cell? ⟨gb183, 4, none⟩ = some (.int .i64 ((rd_T26 l0_0 x75_3).f4)) := (blk_cell BK183.out 4).trans rfl; have hcz79_5 : w78.cell? ⟨gb183, 5, none⟩ = some (.int .i64 ((rd_T26 l0_0 x75_3).f5)) := (blk_cell BK183.out 5).trans rfl; have hfz79_0 := blk_frozen BK183.out 0; have hfz79_1 := blk_frozen BK183.out 1; have hfz79_2 := blk_frozen BK183.out 2; have hfz79_3 := blk_frozen BK183.out 3; have hfz79_4 := blk_frozen BK183.out 4; have hfz79_5 := blk_frozen BK183.out 5; have hcz80_0 : w78.cell? ⟨gb179, 0, none⟩ = some (.slice (some ad182) l0_0.length c0_0) := (blk_cell BK179.out 0).trans rfl; have hcz80_1 : w78.cell? ⟨gb179, 1, none⟩ = some (.slice A0_1 l0_1.length c0_1) := (blk_cell BK179.out 1).trans rfl; have hcz80_2 : w78.cell? ⟨gb179, 2, none⟩ = some (.int .i64 a0_2) := (blk_cell BK179.out 2).trans rfl; have hcz80_3 : w78.cell? ⟨gb179, 3, none⟩ = some (.int .i64 a0_3) := (blk_cell BK179.out 3).trans rfl; have hfz80_0 := blk_frozen BK179.out 0; have hfz80_1 := blk_frozen BK179.out 1; have hfz80_2 := blk_frozen BK179.out 2; have hfz80_3 := blk_frozen BK179.out 3))
                                go_roundg k3
                                case measure => have := HJ1.out; have := HK2.out; have := HK3.out; omega
                                case rel => exact ⟨(wrap64 (x75_3 + 1)), (by first | rfl | (simp; done) | (simp [*]; done)), H', ⟨by have := HJ1.out; have := HK2.out; have := HK3.out; omega⟩, ⟨by (with_reducible repeat (first | refine blk_drewN ?_ _ | refine blk_drew ?_ | refine blk_alloc ?_ _)); exact BK179.out⟩, ⟨by repeat (first | (with_reducible first | exact HB.out | apply below_alloc | apply pw_below_drewN | apply below_drew1 | refine below_set ?_ GE179.out | refine below_set ?_ GE183.out) | exact HB.out)⟩⟩
                            · replace c67 := Bool.eq_false_iff.mpr c67
                              subst c67
                              have H1 : (some false) = some r := by rw [if_neg (show ¬ (false = true) by decide)] at H; exact H
                              clear H
                              have H := H1
                              clear H1
                              obtain rfl := Option.some.inj H
                              have p182 : 0 ≤ (x75_3 : Int) := of_decide_eq_true (by first | (with_reducible assumption) | assumption)
                              have q182 : x75_3 < (l0_0.length : Int) := of_decide_eq_true (by first | (with_reducible assumption) | assumption)
                              obtain ⟨ad182, e182, hx182_0, hx182_1, hx182_2, hx182_3, hx182_4, hx182_5⟩ := at_T26 HR0_0.out x75_3 p182 q182
                              cases e182
                              replace hx182_0 := (HB.out.cell (World.block_lt_of_cell? w _ hx182_0)).trans hx182_0
                              replace hx182_1 := (HB.out.cell (World.block_lt_of_cell? w _ hx182_1)).trans hx182_1
                              replace hx182_2 := (HB.out.cell (World.block_lt_of_cell? w _ hx182_2)).trans hx182_2
                              replace hx182_3 := (HB.out.cell (World.block_lt_of_cell? w _ hx182_3)).trans hx182_3
                              replace hx182_4 := (HB.out.cell (World.block_lt_of_cell? w _ hx182_4)).trans hx182_4
                              replace hx182_5 := (HB.out.cell (World.block_lt_of_cell? w _ hx182_5)).trans hx182_5
                              replace p182 := eq_true p182
                              replace q182 := eq_true q182
                              go_wp2_with (first | ((with_reducible refine gate_dst (N := 7) rfl ?_); (try (refine gate_guard (by rfl) ?_; dsimp only)); refine box_event ?hg (N := 7) ?hd (cs := #[.int .i64 0, .int .i64 0, .int .i64 0, .int .i64 0, .int .i64 0, .int .i64 0]) (t := 26) ?hr ?_; (case hd => rfl); (case hg => rfl); (case hr => first | (go_simp; done) | (go_simp; rfl)); intro gb183 hg w81 hbox hb; have n0_ := Aside0.mk (blk_below (g := gb179) (o := .cells #[.slice (some ad182) l0_0.length c0_0, .slice A0_1 l0_1.length c0_1, .int .i64 a0_2, .int .i64 a0_3] 30 (0, 0)) (by (with_reducible repeat (first | refine blk_drewN ?_ _ | refine blk_drew ?_ | refine blk_alloc ?_ _)); exact BK179.out) hb); have n1_ := Aside0.mk (below_step (by repeat (first | (with_reducible first | exact HB.out | apply below_alloc | apply pw_below_drewN | apply below_drew1 | refine below_set ?_ GE179.out) | exact HB.out)) hb); have n2_ := Aside0.mk (hbox); have n3_ := Aside0.mk ((by rw [hg]; exact (below_size (by repeat (first | (with_reducible first | exact HB.out | apply below_alloc | apply pw_below_drewN | apply below_drew1 | refine below_set ?_ GE179.out) | exact HB.out))) : w.heap.size ≤ gb183)); have n4_ := Aside0.mk ((by rw [hg]; exact (below_size (by repeat (first | (with_reducible first | exact HB.out | apply below_alloc | apply pw_below_drewN | apply below_drew1 | refine below_set ?_ GE179.out) | exact HB.out))) : w.heap.size ≤ gb183)); have n5_ := Aside0.mk ((by rw [hg]; exact Nat.ne_of_lt (blk_lt (g := gb179) (o := .cells #[.slice (some ad182) l0_0.length c0_0, .slice A0_1 l0_1.length c0_1, .int .i64 a0_2, .int .i64 a0_3] 30 (0, 0)) (by (with_reducible repeat (first | refine blk_drewN ?_ _ | refine blk_drew ?_ | refine blk_alloc ?_ _)); exact BK179.out)) : gb179 ≠ gb183)); have n6_ := Aside0.mk ((by rw [hg]; exact Nat.ne_of_gt (blk_lt (g := gb179) (o := .cells #[.slice (some ad182) l0_0.length c0_0, .slice A0_1 l0_1.length c0_1, .int .i64 a0_2, .int .i64 a0_3] 30 (0, 0)) (by (with_reducible repeat (first | refine blk_drewN ?_ _ | refine blk_drew ?_ | refine blk_alloc ?_ _)); exact BK179.out)) : gb183 ≠ gb179)); clear BK179; clear HB; have BK179 := n0_; have HB := n1_; have BK183 := n2_; have GW183 := n3_; have GE183 := n4_; have NB179_183 := n5_; have NB183_179 := n6_; clear n0_ n1_ n2_ n3_ n4_ n5_ n6_; clear hb hbox hg; have hnb82 := NB183_179.out; have hnc82 := NB179_183.out; have hcz83_0 : w81.cell? ⟨gb183, 0, none⟩ = some (.int .i64 0) := (blk_cell BK183.out 0).trans rfl; have hcz83_1 : w81.cell? ⟨gb183, 1, none⟩ = some (.int .i64 0) := (blk_cell BK183.out 1).trans rfl; have hcz83_2 : w81.cell? ⟨gb183, 2, none⟩ = some (.int .i64 0) := (blk_cell BK183.out 2).trans rfl; have hcz83_3 : w81.cell? ⟨gb183, 3, none⟩ = some (.int .i64 0) := (blk_cell BK183.out 3).trans rfl; have hcz83_4 : w81.cell? ⟨gb183, 4, none⟩ = some (.int .i64 0) := (blk_cell BK183.out 4).trans rfl; have hcz83_5 : w81.cell? ⟨gb183, 5, none⟩ = some (.int .i64 0) := (blk_cell BK183.out 5).trans rfl; have hfz83_0 := blk_frozen BK183.out 0; have hfz83_1 := blk_frozen BK183.out 1; have hfz83_2 := blk_frozen BK183.out 2; have hfz83_3 := blk_frozen BK183.out 3; have hfz83_4 := blk_frozen BK183.out 4; have hfz83_5 := blk_frozen BK183.out 5) | ((with_reducible refine gate_callee (f := 17) rfl ?_); refine goesL_ (some 93) rfl rfl Try.func17 (by kernel_rfl) rfl #[.agg #[.int .i64 ((rd_T26 l0_0 x75_3).f0), .int .i64 ((rd_T26 l0_0 x75_3).f1), .int .i64 ((rd_T26 l0_0 x75_3).f2), .int .i64 ((rd_T26 l0_0 x75_3).f3), .int .i64 ((rd_T26 l0_0 x75_3).f4), .int .i64 ((rd_T26 l0_0 x75_3).f5)]] rfl (by (try simp only [List.map_toArray, List.map_cons, List.map_nil]); first | done | rfl | (simp only [List.length_drop, List.length_take]; rfl)) ?_; (with_reducible refine (code_Ins_Right.calls k3 ((rd_T26 l0_0 x75_3).f0) ((rd_T26 l0_0 x75_3).f1) ((rd_T26 l0_0 x75_3).f2) ((rd_T26 l0_0 x75_3).f3) ((rd_T26 l0_0 x75_3).f4) ((rd_T26 l0_0 x75_3).f5) false _ A66.out).mono ?_); rintro e w84 ⟨rfl, hb⟩; refine ⟨_, rfl, ?_⟩; have n0_ := Aside0.mk (blk_below (g := gb179) (o := .cells #[.slice (some ad182) l0_0.length c0_0, .slice A0_1 l0_1.length c0_1, .int .i64 a0_2, .int .i64 a0_3] 30 (0, 0)) (by (with_reducible repeat (first | refine blk_drewN ?_ _ | refine blk_drew ?_ | refine blk_alloc ?_ _)); refine blk_far ?_ NB179_183.out _; (with_reducible repeat (first | refine blk_drewN ?_ _ | refine blk_drew ?_ | refine blk_alloc ?_ _)); refine blk_far ?_ NB179_183.out _; (with_reducible repeat (first | refine blk_drewN ?_ _ | refine blk_drew ?_ | refine blk_alloc ?_ _)); refine blk_far ?_ NB179_183.out _; (with_reducible repeat (first | refine blk_drewN ?_ _ | refine blk_drew ?_ | refine blk_alloc ?_ _)); refine blk_far ?_ NB179_183.out _; (with_reducible repeat (first | refine blk_drewN ?_ _ | refine blk_drew ?_ | refine blk_alloc ?_ _)); refine blk_far ?_ NB179_183.out _; (with_reducible repeat (first | refine blk_drewN ?_ _ | refine blk_drew ?_ | refine blk_alloc ?_ _)); refine blk_far ?_ NB179_183.out _; (with_reducible repeat (first | refine blk_drewN ?_ _ | refine blk_drew ?_ | refine blk_alloc ?_ _)); exact BK179.out) hb); have n1_ := Aside0.mk (blk_below (g := gb183) (o := .cells #[.int .i64 ((rd_T26 l0_0 x75_3).f0), .int .i64 ((rd_T26 l0_0 x75_3).f1), .int .i64 ((rd_T26 l0_0 x75_3).f2), .int .i64 ((rd_T26 l0_0 x75_3).f3), .int .i64 ((rd_T26 l0_0 x75_3).f4), .int .i64 ((rd_T26 l0_0 x75_3).f5)] 26 (0, 0)) (by (with_reducible repeat (first | refine blk_drewN ?_ _ | refine blk_drew ?_ | refine blk_alloc ?_ _)); refine blk_put (cs := #[.int .i64 ((rd_T26 l0_0 x75_3).f0), .int .i64 ((rd_T26 l0_0 x75_3).f1), .int .i64 ((rd_T26 l0_0 x75_3).f2), .int .i64 ((rd_T26 l0_0 x75_3).f3), .int .i64 ((rd_T26 l0_0 x75_3).f4), .int .i64 0]) ?_ 5 _ rfl; (with_reducible repeat (first | refine blk_drewN ?_ _ | refine blk_drew ?_ | refine blk_alloc ?_ _)); refine blk_put (cs := #[.int .i64 ((rd_T26 l0_0 x75_3).f0), .int .i64 ((rd_T26 l0_0 x75_3).f1), .int .i64 ((rd_T26 l0_0 x75_3).f2), .int .i64 ((rd_T26 l0_0 x75_3).f3), .int .i64 0, .int .i64 0]) ?_ 4 _ rfl; (with_reducible repeat (first | refine blk_drewN ?_ _ | refine blk_drew ?_ | refine blk_alloc ?_ _)); refine blk_put (cs := #[.int .i64 ((rd_T26 l0_0 x75_3).f0), .int .i64 ((rd_T26 l0_0 x75_3).f1), .int .i64 ((rd_T26 l0_0 x75_3).f2), .int .i64 0, .int .i64 0, .int .i64 0]) ?_ 3 _ rfl; (with_reducible repeat (first | refine blk_drewN ?_ _ | refine blk_drew ?_ | refine blk_alloc ?_ _)); refine blk_put (cs := #[.int .i64 ((rd_T26 l0_0 x75_3).f0), .int .i64 ((rd_T26 l0_0 x75_3).f1), .int .i64 0, .int .i64 0, .int .i64 0, .int .i64 0]) ?_ 2 _ rfl; (with_reducible repeat (first | refine blk_drewN ?_ _ | refine blk_drew ?_ | refine blk_alloc ?_ _)); refine blk_put (cs := #[.int .i64 ((rd_T26 l0_0 x75_3).f0), .int .i64 0, .int .i64 0, .int .i64 0, .int .i64 0, .int .i64 0]) ?_ 1 _ rfl; (with_reducible repeat (first | refine blk_drewN ?_ _ | refine blk_drew ?_ | refine blk_alloc ?_ _)); refine blk_put (cs := #[.int .i64 0, .int .i64 0, .int .i64 0, .int .i64 0, .int .i64 0, .int .i64 0]) ?_ 0 _ rfl; (with_reducible repeat (first | refine blk_drewN ?_ _ | refine blk_drew ?_ | refine blk_alloc ?_ _)); exact BK183.out) hb); have n2_ := Aside0.mk (below_step (by repeat (first | (with_reducible first | exact HB.out | apply below_alloc | apply pw_below_drewN | apply below_drew1 | refine below_set ?_ GE179.out | refine below_set ?_ GE183.out) | exact HB.out)) hb); clear BK179; clear BK183; clear HB; have BK179 := n0_; have BK183 := n1_; have HB := n2_; clear n0_ n1_ n2_; (try clear hb); (try clear hb2); (try clear hk); (try clear hi)))
                              go_ret
                              exact ⟨by first | rfl | (simp [errW_none, errW_some] <;> rfl) | (simp [*, errW_none, errW_some] <;> rfl), by repeat (first | (with_reducible first | exact HB.out | apply below_alloc | apply pw_below_drewN | apply below_drew1 | refine below_set ?_ GE179.out | refine below_set ?_ GE183.out) | exact HB.out)⟩
                          · rw [if_neg c65] at H
                            have c65b0 : (((rd_T26 l0_0 x75_3).f0) == 7) = false := beq_eq_false_iff_ne.mpr c65
                            have c65b1 : (((rd_T26 l0_0 x75_3).f0) != 7) = true := bne_iff_ne.mpr c65
                            replace H := Option.bind_eq_some_iff.mp H
                            obtain ⟨t186, A850, H⟩ := H
                            replace H : (if t186 = true then (if ((rd_T26 l0_0 x75_3).f0) = 8 then (if ((rd_T26 l0_0 x75_3).f5) ≥ (l0_0.length : Int) then (some false) else (palingslaw18_right.l1 k3 x3_2 l0_0 (l0_0.length : Int) (wrap64 (x75_3 + 1)) l0_0 l0_1 a0_2 a0_3)) else (palingslaw18_right.l1 k3 x3_2 l0_0 (l0_0.length : Int) (wrap64 (x75_3 + 1)) l0_0 l0_1 a0_2 a0_3)) else (some false)) = some r := H
                            have A85 := Aside0.mk A850
                            clear A850
                            by_cases c86 : t186 = true
                            · subst c86
                              have H1 : (if ((rd_T26 l0_0 x75_3).f0) = 8 then (if ((rd_T26 l0_0 x75_3).f5) ≥ (l0_0.length : Int) then (some false) else (palingslaw18_right.l1 k3 x3_2 l0_0 (l0_0.length : Int) (wrap64 (x75_3 + 1)) l0_0 l0_1 a0_2 a0_3)) else (palingslaw18_right.l1 k3 x3_2 l0_0 (l0_0.length : Int) (wrap64 (x75_3 + 1)) l0_0 l0_1 a0_2 a0_3)) = some r := by rw [if_pos rfl] at H; exact H
                              clear H
                              have H := H1
                              clear H1
                              by_cases c87 : ((rd_T26 l0_0 x75_3).f0) = 8
                              · rw [if_pos c87] at H
                                have c87b0 : (((rd_T26 l0_0 x75_3).f0) == 8) = true := beq_iff_eq.mpr c87
                                have c87b1 : (((rd_T26 l0_0 x75_3).f0) != 8) = false := bne_eq_false_iff_eq.mpr c87
                                clear c87
                                by_cases c88 : ((rd_T26 l0_0 x75_3).f5) ≥ (l0_0.length : Int)
                                · rw [if_pos c88] at H
                                  have c88b0 : decide ((l0_0.length : Int) ≤ ((rd_T26 l0_0 x75_3).f5)) = true := decide_eq_true c88
                                  clear c88
                                  obtain rfl := Option.some.inj H
                                  have p182 : 0 ≤ (x75_3 : Int) := of_decide_eq_true (by first | (with_reducible assumption) | assumption)
                                  have q182 : x75_3 < (l0_0.length : Int) := of_decide_eq_true (by first | (with_reducible assumption) | assumption)
                                  obtain ⟨ad182, e182, hx182_0, hx182_1, hx182_2, hx182_3, hx182_4, hx182_5⟩ := at_T26 HR0_0.out x75_3 p182 q182
                                  cases e182
                                  replace hx182_0 := (HB.out.cell (World.block_lt_of_cell? w _ hx182_0)).trans hx182_0
                                  replace hx182_1 := (HB.out.cell (World.block_lt_of_cell? w _ hx182_1)).trans hx182_1
                                  replace hx182_2 := (HB.out.cell (World.block_lt_of_cell? w _ hx182_2)).trans hx182_2
                                  replace hx182_3 := (HB.out.cell (World.block_lt_of_cell? w _ hx182_3)).trans hx182_3
                                  replace hx182_4 := (HB.out.cell (World.block_lt_of_cell? w _ hx182_4)).trans hx182_4
                                  replace hx182_5 := (HB.out.cell (World.block_lt_of_cell? w _ hx182_5)).trans hx182_5
                                  replace p182 := eq_true p182
                                  replace q182 := eq_true q182
                                  go_wp2_with (first | ((with_reducible refine gate_dst (N := 7) rfl ?_); (try (refine gate_guard (by rfl) ?_; dsimp only)); refine box_event ?hg (N := 7) ?hd (cs := #[.int .i64 0, .int .i64 0, .int .i64 0, .int .i64 0, .int .i64 0, .int .i64 0]) (t := 26) ?hr ?_; (case hd => rfl); (case hg => rfl); (case hr => first | (go_simp; done) | (go_simp; rfl)); intro gb183 hg w89 hbox hb; have n0_ := Aside0.mk (blk_below (g := gb179) (o := .cells #[.slice (some ad182) l0_0.length c0_0, .slice A0_1 l0_1.length c0_1, .int .i64 a0_2, .int .i64 a0_3] 30 (0, 0)) (by (with_reducible repeat (first | refine blk_drewN ?_ _ | refine blk_drew ?_ | refine blk_alloc ?_ _)); exact BK179.out) hb); have n1_ := Aside0.mk (below_step (by repeat (first | (with_reducible first | exact HB.out | apply below_alloc | apply pw_below_drewN | apply below_drew1 | refine below_set ?_ GE179.out) | exact HB.out)) hb); have n2_ := Aside0.mk (hbox); have n3_ := Aside0.mk ((by rw [hg]; exact (below_size (by repeat (first | (with_reducible first | exact HB.out | apply below_alloc | apply pw_below_drewN | apply below_drew1 | refine below_set ?_ GE179.out) | exact HB.out))) : w.heap.size ≤ gb183)); have n4_ := Aside0.mk ((by rw [hg]; exact (below_size (by repeat (first | (with_reducible first | exact HB.out | apply below_alloc | apply pw_below_drewN | apply below_drew1 | refine below_set ?_ GE179.out) | exact HB.out))) : w.heap.size ≤ gb183)); have n5_ := Aside0.mk ((by rw [hg]; exact Nat.ne_of_lt (blk_lt (g := gb179) (o := .cells #[.slice (some ad182) l0_0.length c0_0, .slice A0_1 l0_1.length c0_1, .int .i64 a0_2, .int .i64 a0_3] 30 (0, 0)) (by (with_reducible repeat (first | refine blk_drewN ?_ _ | refine blk_drew ?_ | refine blk_alloc ?_ _)); exact BK179.out)) : gb179 ≠ gb183)); have n6_ := Aside0.mk ((by rw [hg]; exact Nat.ne_of_gt (blk_lt (g := gb179) (o := .cells #[.slice (some ad182) l0_0.length c0_0, .slice A0_1 l0_1.length c0_1, .int .i64 a0_2, .int .i64 a0_3] 30 (0, 0)) (by (with_reducible repeat (first | refine blk_drewN ?_ _ | refine blk_drew ?_ | refine blk_alloc ?_ _)); exact BK179.out)) : gb183 ≠ gb179)); clear BK179; clear HB; have BK179 := n0_; have HB := n1_; have BK183 := n2_; have GW183 := n3_; have GE183 := n4_; have NB179_183 := n5_; have NB183_179 := n6_; clear n0_ n1_ n2_ n3_ n4_ n5_ n6_; clear hb hbox hg; have hnb90 := NB183_179.out; have hnc90 := NB179_183.out; have hcz91_0 : w89.cell? ⟨gb183, 0, none⟩ = some (.int .i64 0) := (blk_cell BK183.out 0).trans rfl; have hcz91_1 : w89.cell? ⟨gb183, 1, none⟩ = some (.int .i64 0) := (blk_cell BK183.out 1).trans rfl; have hcz91_2 : w89.cell? ⟨gb183, 2, none⟩ = some (.int .i64 0) := (blk_cell BK183.out 2).trans rfl; have hcz91_3 : w89.cell? ⟨gb183, 3, none⟩ = some (.int .i64 0) := (blk_cell BK183.out 3).trans rfl; have hcz91_4 : w89.cell? ⟨gb183, 4, none⟩ = some (.int .i64 0) := (blk_cell BK183.out 4).trans rfl; have hcz91_5 : w89.cell? ⟨gb183, 5, none⟩ = some (.int .i64 0) := (blk_cell BK183.out 5).trans rfl; have hfz91_0 := blk_frozen BK183.out 0; have hfz91_1 := blk_frozen BK183.out 1; have hfz91_2 := blk_frozen BK183.out 2; have hfz91_3 := blk_frozen BK183.out 3; have hfz91_4 := blk_frozen BK183.out 4; have hfz91_5 := blk_frozen BK183.out 5) | ((with_reducible refine gate_callee (f := 17) rfl ?_); refine goesL_ (some 93) rfl rfl Try.func17 (by kernel_rfl) rfl #[.agg #[.int .i64 ((rd_T26 l0_0 x75_3).f0), .int .i64 ((rd_T26 l0_0 x75_3).f1), .int .i64 ((rd_T26 l0_0 x75_3).f2), .int .i64 ((rd_T26 l0_0 x75_3).f3), .int .i64 ((rd_T26 l0_0 x75_3).f4), .int .i64 ((rd_T26 l0_0 x75_3).f5)]] rfl (by (try simp only [List.map_toArray, List.map_cons, List.map_nil]); first | done | rfl | (simp only [List.length_drop, List.length_take]; rfl)) ?_; (with_reducible refine (code_Ins_Right.calls k3 ((rd_T26 l0_0 x75_3).f0) ((rd_T26 l0_0 x75_3).f1) ((rd_T26 l0_0 x75_3).f2) ((rd_T26 l0_0 x75_3).f3) ((rd_T26 l0_0 x75_3).f4) ((rd_T26 l0_0 x75_3).f5) true _ A85.out).mono ?_); rintro e w92 ⟨rfl, hb⟩; refine ⟨_, rfl, ?_⟩; have n0_ := Aside0.mk (blk_below (g := gb179) (o := .cells #[.slice (some ad182) l0_0.length c0_0, .slice A0_1 l0_1.length c0_1, .int .i64 a0_2, .int .i64 a0_3] 30 (0, 0)) (by (with_reducible repeat (first | refine blk_drewN ?_ _ | refine blk_drew ?_ | refine blk_alloc ?_ _)); refine blk_far ?_ NB179_183.out _; (with_reducible repeat (first | refine blk_drewN ?_ _ | refine blk_drew ?_ | refine blk_alloc ?_ _)); refine blk_far ?_ NB179_183.out _; (with_reducible repeat (first | refine blk_drewN ?_ _ | refine blk_drew ?_ | refine blk_alloc ?_ _)); refine blk_far ?_ NB179_183.out _; (with_reducible repeat (first | refine blk_drewN ?_ _ | refine blk_drew ?_ | refine blk_alloc ?_ _)); refine blk_far ?_ NB179_183.out _; (with_reducible repeat (first | refine blk_drewN ?_ _ | refine blk_drew ?_ | refine blk_alloc ?_ _)); refine blk_far ?_ NB179_183.out _; (with_reducible repeat (first | refine blk_drewN ?_ _ | refine blk_drew ?_ | refine blk_alloc ?_ _)); refine blk_far ?_ NB179_183.out _; (with_reducible repeat (first | refine blk_drewN ?_ _ | refine blk_drew ?_ | refine blk_alloc ?_ _)); exact BK179.out) hb); have n1_ := Aside0.mk (blk_below (g := gb183) (o := .cells #[.int .i64 ((rd_T26 l0_0 x75_3).f0), .int .i64 ((rd_T26 l0_0 x75_3).f1), .int .i64 ((rd_T26 l0_0 x75_3).f2), .int .i64 ((rd_T26 l0_0 x75_3).f3), .int .i64 ((rd_T26 l0_0 x75_3).f4), .int .i64 ((rd_T26 l0_0 x75_3).f5)] 26 (0, 0)) (by (with_reducible repeat (first | refine blk_drewN ?_ _ | refine blk_drew ?_ | refine blk_alloc ?_ _)); refine blk_put (cs := #[.int .i64 ((rd_T26 l0_0 x75_3).f0), .int .i64 ((rd_T26 l0_0 x75_3).f1), .int .i64 ((rd_T26 l0_0 x75_3).f2), .int .i64 ((rd_T26 l0_0 x75_3).f3), .int .i64 ((rd_T26 l0_0 x75_3).f4), .int .i64 0]) ?_ 5 _ rfl; (with_reducible repeat (first | refine blk_drewN ?_ _ | refine blk_drew ?_ | refine blk_alloc ?_ _)); refine blk_put (cs := #[.int .i64 ((rd_T26 l0_0 x75_3).f0), .int .i64 ((rd_T26 l0_0 x75_3).f1), .int .i64 ((rd_T26 l0_0 x75_3).f2), .int .i64 ((rd_T26 l0_0 x75_3).f3), .int .i64 0, .int .i64 0]) ?_ 4 _ rfl; (with_reducible repeat (first | refine blk_drewN ?_ _ | refine blk_drew ?_ | refine blk_alloc ?_ _)); refine blk_put (cs := #[.int .i64 ((rd_T26 l0_0 x75_3).f0), .int .i64 ((rd_T26 l0_0 x75_3).f1), .int .i64 ((rd_T26 l0_0 x75_3).f2), .int .i64 0, .int .i64 0, .int .i64 0]) ?_ 3 _ rfl; (with_reducible repeat (first | refine blk_drewN ?_ _ | refine blk_drew ?_ | refine blk_alloc ?_ _)); refine blk_put (cs := #[.int .i64 ((rd_T26 l0_0 x75_3).f0), .int .i64 ((rd_T26 l0_0 x75_3).f1), .int .i64 0, .int .i64 0, .int .i64 0, .int .i64 0]) ?_ 2 _ rfl; (with_reducible repeat (first | refine blk_drewN ?_ _ | refine blk_drew ?_ | refine blk_alloc ?_ _)); refine blk_put (cs := #[.int .i64 ((rd_T26 l0_0 x75_3).f0), .int .i64 0, .int .i64 0, .int .i64 0, .int .i64 0, .int .i64 0]) ?_ 1 _ rfl; (with_reducible repeat (first | refine blk_drewN ?_ _ | refine blk_drew ?_ | refine blk_alloc ?_ _)); refine blk_put (cs := #[.int .i64 0, .int .i64 0, .int .i64 0, .int .i64 0, .int .i64 0, .int .i64 0]) ?_ 0 _ rfl; (with_reducible repeat (first | refine blk_drewN ?_ _ | refine blk_drew ?_ | refine blk_alloc ?_ _)); exact BK183.out) hb); have n2_ := Aside0.mk (below_step (by repeat (first | (with_reducible first | exact HB.out | apply below_alloc | apply pw_below_drewN | apply below_drew1 | refine below_set ?_ GE179.out | refine below_set ?_ GE183.out) | exact HB.out)) hb); clear BK179; clear BK183; clear HB; have BK179 := n0_; have BK183 := n1_; have HB := n2_; clear n0_ n1_ n2_; (try clear hb); (try clear hb2); (try clear hk); (try clear hi); have hcz93_0 : w92.cell? ⟨gb183, 0, none⟩ = some (.int .i64 ((rd_T26 l0_0 x75_3).f0)) := (blk_cell BK183.out 0).trans rfl; have hcz93_1 : w92.cell? ⟨gb183, 1, none⟩ = some (.int .i64 ((rd_T26 l0_0 x75_3).f1)) := (blk_cell BK183.out 1).trans rfl; have hcz93_2 : w92.cell? ⟨gb183, 2, none⟩ = some (.int .i64 ((rd_T26 l0_0 x75_3).f2)) := (blk_cell BK183.out 2).trans rfl; have hcz93_3 : w92.cell? ⟨gb183, 3, none⟩ = some (.int .i64 ((rd_T26 l0_0 x75_3).f3)) := (blk_cell BK183.out 3).trans rfl; have hcz93_4 : w92.cell? ⟨gb183, 4, none⟩ = some (.int .i64 ((rd_T26 l0_0 x75_3).f4)) := (blk_cell BK183.out 4).trans rfl; have hcz93_5 : w92.cell? ⟨gb183, 5, none⟩ = some (.int .i64 ((rd_T26 l0_0 x75_3).f5)) := (blk_cell BK183.out 5).trans rfl; have hfz93_0 := blk_frozen BK183.out 0; have hfz93_1 := blk_frozen BK183.out 1; have hfz93_2 := blk_frozen BK183.out 2; have hfz93_3 := blk_frozen BK183.out 3; have hfz93_4 := blk_frozen BK183.out 4; have hfz93_5 := blk_frozen BK183.out 5; have hcz94_0 : w92.cell? ⟨gb179, 0, none⟩ = some (.slice (some ad182) l0_0.length c0_0) := (blk_cell BK179.out 0).trans rfl; have hcz94_1 : w92.cell? ⟨gb179, 1, none⟩ = some (.slice A0_1 l0_1.length c0_1) := (blk_cell BK179.out 1).trans rfl; have hcz94_2 : w92.cell? ⟨gb179, 2, none⟩ = some (.int .i64 a0_2) := (blk_cell BK179.out 2).trans rfl; have hcz94_3 : w92.cell? ⟨gb179, 3, none⟩ = some (.int .i64 a0_3) := (blk_cell BK179.out 3).trans rfl; have hfz94_0 := blk_frozen BK179.out 0; have hfz94_1 := blk_frozen BK179.out 1; have hfz94_2 := blk_frozen BK179.out 2; have hfz94_3 := blk_frozen BK179.out 3))
                                  go_ret
                                  exact ⟨by first | rfl | (simp [errW_none, errW_some] <;> rfl) | (simp [*, errW_none, errW_some] <;> rfl), by repeat (first | (with_reducible first | exact HB.out | apply below_alloc | apply pw_below_drewN | apply below_drew1 | refine below_set ?_ GE179.out | refine below_set ?_ GE183.out) | exact HB.out)⟩
                                · rw [if_neg c88] at H
                                  have c88b0 : decide ((l0_0.length : Int) ≤ ((rd_T26 l0_0 x75_3).f5)) = false := decide_eq_false c88
                                  clear c88
                                  have H' := Aside0.mk H
                                  clear H
                                  have p182 : 0 ≤ (x75_3 : Int) := of_decide_eq_true (by first | (with_reducible assumption) | assumption)
                                  have q182 : x75_3 < (l0_0.length : Int) := of_decide_eq_true (by first | (with_reducible assumption) | assumption)
                                  obtain ⟨ad182, e182, hx182_0, hx182_1, hx182_2, hx182_3, hx182_4, hx182_5⟩ := at_T26 HR0_0.out x75_3 p182 q182
                                  cases e182
                                  replace hx182_0 := (HB.out.cell (World.block_lt_of_cell? w _ hx182_0)).trans hx182_0
                                  replace hx182_1 := (HB.out.cell (World.block_lt_of_cell? w _ hx182_1)).trans hx182_1
                                  replace hx182_2 := (HB.out.cell (World.block_lt_of_cell? w _ hx182_2)).trans hx182_2
                                  replace hx182_3 := (HB.out.cell (World.block_lt_of_cell? w _ hx182_3)).trans hx182_3
                                  replace hx182_4 := (HB.out.cell (World.block_lt_of_cell? w _ hx182_4)).trans hx182_4
                                  replace hx182_5 := (HB.out.cell (World.block_lt_of_cell? w _ hx182_5)).trans hx182_5
                                  replace p182 := eq_true p182
                                  replace q182 := eq_true q182
                                  go_wp2_with (first | ((with_reducible refine gate_dst (N := 7) rfl ?_); (try (refine gate_guard (by rfl) ?_; dsimp only)); refine box_event ?hg (N := 7) ?hd (cs := #[.int .i64 0, .int .i64 0, .int .i64 0, .int .i64 0, .int .i64 0, .int .i64 0]) (t := 26) ?hr ?_; (case hd => rfl); (case hg => rfl); (case hr => first | (go_simp; done) | (go_simp; rfl)); intro gb183 hg w95 hbox hb; have n0_ := Aside0.mk (blk_below (g := gb179) (o := .cells #[.slice (some ad182) l0_0.length c0_0, .slice A0_1 l0_1.length c0_1, .int .i64 a0_2, .int .i64 a0_3] 30 (0, 0)) (by (with_reducible repeat (first | refine blk_drewN ?_ _ | refine blk_drew ?_ | refine blk_alloc ?_ _)); exact BK179.out) hb); have n1_ := Aside0.mk (below_step (by repeat (first | (with_reducible first | exact HB.out | apply below_alloc | apply pw_below_drewN | apply below_drew1 | refine below_set ?_ GE179.out) | exact HB.out)) hb); have n2_ := Aside0.mk (hbox); have n3_ := Aside0.mk ((by rw [hg]; exact (below_size (by repeat (first | (with_reducible first | exact HB.out | apply below_alloc | apply pw_below_drewN | apply below_drew1 | refine below_set ?_ GE179.out) | exact HB.out))) : w.heap.size ≤ gb183)); have n4_ := Aside0.mk ((by rw [hg]; exact (below_size (by repeat (first | (with_reducible first | exact HB.out | apply below_alloc | apply pw_below_drewN | apply below_drew1 | refine below_set ?_ GE179.out) | exact HB.out))) : w.heap.size ≤ gb183)); have n5_ := Aside0.mk ((by rw [hg]; exact Nat.ne_of_lt (blk_lt (g := gb179) (o := .cells #[.slice (some ad182) l0_0.length c0_0, .slice A0_1 l0_1.length c0_1, .int .i64 a0_2, .int .i64 a0_3] 30 (0, 0)) (by (with_reducible repeat (first | refine blk_drewN ?_ _ | refine blk_drew ?_ | refine blk_alloc ?_ _)); exact BK179.out)) : gb179 ≠ gb183)); have n6_ := Aside0.mk ((by rw [hg]; exact Nat.ne_of_gt (blk_lt (g := gb179) (o := .cells #[.slice (some ad182) l0_0.length c0_0, .slice A0_1 l0_1.length c0_1, .int .i64 a0_2, .int .i64 a0_3] 30 (0, 0)) (by (with_reducible repeat (first | refine blk_drewN ?_ _ | refine blk_drew ?_ | refine blk_alloc ?_ _)); exact BK179.out)) : gb183 ≠ gb179)); clear BK179; clear HB; have BK179 := n0_; have HB := n1_; have BK183 := n2_; have GW183 := n3_; have GE183 := n4_; have NB179_183 := n5_; have NB183_179 := n6_; clear n0_ n1_ n2_ n3_ n4_ n5_ n6_; clear hb hbox hg; have hnb96 := NB183_179.out; have hnc96 := NB179_183.out; have hcz97_0 : w95.cell? ⟨gb183, 0, none⟩ = some (.int .i64 0) := (blk_cell BK183.out 0).trans rfl; have hcz97_1 : w95.cell? ⟨gb183, 1, none⟩ = some (.int .i64 0) := (blk_cell BK183.out 1).trans rfl; have hcz97_2 : w95.cell? ⟨gb183, 2, none⟩ = some (.int .i64 0) := (blk_cell BK183.out 2).trans rfl; have hcz97_3 : w95.cell? ⟨gb183, 3, none⟩ = some (.int .i64 0) := (blk_cell BK183.out 3).trans rfl; have hcz97_4 : w95.cell? ⟨gb183, 4, none⟩ = some (.int .i64 0) := (blk_cell BK183.out 4).trans rfl; have hcz97_5 : w95.cell? ⟨gb183, 5, none⟩ = some (.int .i64 0) := (blk_cell BK183.out 5).trans rfl; have hfz97_0 := blk_frozen BK183.out 0; have hfz97_1 := blk_frozen BK183.out 1; have hfz97_2 := blk_frozen BK183.out 2; have hfz97_3 := blk_frozen BK183.out 3; have hfz97_4 := blk_frozen BK183.out 4; have hfz97_5 := blk_frozen BK183.out 5) | ((with_reducible refine gate_callee (f := 17) rfl ?_); refine goesL_ (some 93) rfl rfl Try.func17 (by kernel_rfl) rfl #[.agg #[.int .i64 ((rd_T26 l0_0 x75_3).f0), .int .i64 ((rd_T26 l0_0 x75_3).f1), .int .i64 ((rd_T26 l0_0 x75_3).f2), .int .i64 ((rd_T26 l0_0 x75_3).f3), .int .i64 ((rd_T26 l0_0 x75_3).f4), .int .i64 ((rd_T26 l0_0 x75_3).f5)]] rfl (by (try simp only [List.map_toArray, List.map_cons, List.map_nil]); first | done | rfl | (simp only [List.length_drop, List.length_take]; rfl)) ?_; (with_reducible refine (code_Ins_Right.calls k3 ((rd_T26 l0_0 x75_3).f0) ((rd_T26 l0_0 x75_3).f1) ((rd_T26 l0_0 x75_3).f2) ((rd_T26 l0_0 x75_3).f3) ((rd_T26 l0_0 x75_3).f4) ((rd_T26 l0_0 x75_3).f5) true _ A85.out).mono ?_); rintro e w98 ⟨rfl, hb⟩; refine ⟨_, rfl, ?_⟩; have n0_ := Aside0.mk (blk_below (g := gb179) (o := .cells #[.slice (some ad182) l0_0.length c0_0, .slice A0_1 l0_1.length c0_1, .int .i64 a0_2, .int .i64 a0_3] 30 (0, 0)) (by (with_reducible repeat (first | refine blk_drewN ?_ _ | refine blk_drew ?_ | refine blk_alloc ?_ _)); refine blk_far ?_ NB179_183.out _; (with_reducible repeat (first | refine blk_drewN ?_ _ | refine blk_drew ?_ | refine blk_alloc ?_ _)); refine blk_far ?_ NB179_183.out _; (with_reducible repeat (first | refine blk_drewN ?_ _ | refine blk_drew ?_ | refine blk_alloc ?_ _)); refine blk_far ?_ NB179_183.out _; (with_reducible repeat (first | refine blk_drewN ?_ _ | refine blk_drew ?_ | refine blk_alloc ?_ _)); refine blk_far ?_ NB179_183.out _; (with_reducible repeat (first | refine blk_drewN ?_ _ | refine blk_drew ?_ | refine blk_alloc ?_ _)); refine blk_far ?_ NB179_183.out _; (with_reducible repeat (first | refine blk_drewN ?_ _ | refine blk_drew ?_ | refine blk_alloc ?_ _)); refine blk_far ?_ NB179_183.out _; (with_reducible repeat (first | refine blk_drewN ?_ _ | refine blk_drew ?_ | refine blk_alloc ?_ _)); exact BK179.out) hb); have n1_ := Aside0.mk (blk_below (g := gb183) (o := .cells #[.int .i64 ((rd_T26 l0_0 x75_3).f0), .int .i64 ((rd_T26 l0_0 x75_3).f1), .int .i64 ((rd_T26 l0_0 x75_3).f2), .int .i64 ((rd_T26 l0_0 x75_3).f3), .int .i64 ((rd_T26 l0_0 x75_3).f4), .int .i64 ((rd_T26 l0_0 x75_3).f5)] 26 (0, 0)) (by (with_reducible repeat (first | refine blk_drewN ?_ _ | refine blk_drew ?_ | refine blk_alloc ?_ _)); refine blk_put (cs := #[.int .i64 ((rd_T26 l0_0 x75_3).f0), .int .i64 ((rd_T26 l0_0 x75_3).f1), .int .i64 ((rd_T26 l0_0 x75_3).f2), .int .i64 ((rd_T26 l0_0 x75_3).f3), .int .i64 ((rd_T26 l0_0 x75_3).f4), .int .i64 0]) ?_ 5 _ rfl; (with_reducible repeat (first | refine blk_drewN ?_ _ | refine blk_drew ?_ | refine blk_alloc ?_ _)); refine blk_put (cs := #[.int .i64 ((rd_T26 l0_0 x75_3).f0), .int .i64 ((rd_T26 l0_0 x75_3).f1), .int .i64 ((rd_T26 l0_0 x75_3).f2), .int .i64 ((rd_T26 l0_0 x75_3).f3), .int .i64 0, .int .i64 0]) ?_ 4 _ rfl; (with_reducible repeat (first | refine blk_drewN ?_ _ | refine blk_drew ?_ | refine blk_alloc ?_ _)); refine blk_put (cs := #[.int .i64 ((rd_T26 l0_0 x75_3).f0), .int .i64 ((rd_T26 l0_0 x75_3).f1), .int .i64 ((rd_T26 l0_0 x75_3).f2), .int .i64 0, .int .i64 0, .int .i64 0]) ?_ 3 _ rfl; (with_reducible repeat (first | refine blk_drewN ?_ _ | refine blk_drew ?_ | refine blk_alloc ?_ _)); refine blk_put (cs := #[.int .i64 ((rd_T26 l0_0 x75_3).f0), .int .i64 ((rd_T26 l0_0 x75_3).f1), .int .i64 0, .int .i64 0, .int .i64 0, .int .i64 0]) ?_ 2 _ rfl; (with_reducible repeat (first | refine blk_drewN ?_ _ | refine blk_drew ?_ | refine blk_alloc ?_ _)); refine blk_put (cs := #[.int .i64 ((rd_T26 l0_0 x75_3).f0), .int .i64 0, .int .i64 0, .int .i64 0, .int .i64 0, .int .i64 0]) ?_ 1 _ rfl; (with_reducible repeat (first | refine blk_drewN ?_ _ | refine blk_drew ?_ | refine blk_alloc ?_ _)); refine blk_put (cs := #[.int .i64 0, .int .i64 0, .int .i64 0, .int .i64 0, .int .i64 0, .int .i64 0]) ?_ 0 _ rfl; (with_reducible repeat (first | refine blk_drewN ?_ _ | refine blk_drew ?_ | refine blk_alloc ?_ _)); exact BK183.out) hb); have n2_ := Aside0.mk (below_step (by repeat (first | (with_reducible first | exact HB.out | apply below_alloc | apply pw_below_drewN | apply below_drew1 | refine below_set ?_ GE179.out | refine below_set ?_ GE183.out) | exact HB.out)) hb); clear BK179; clear BK183; clear HB; have BK179 := n0_; have BK183 := n1_; have HB := n2_; clear n0_ n1_ n2_; (try clear hb); (try clear hb2); (try clear hk); (try clear hi); have hcz99_0 : w98.cell? ⟨gb183, 0, none⟩ = some (.int .i64 ((rd_T26 l0_0 x75_3).f0)) := (blk_cell BK183.out 0).trans rfl; have hcz99_1 : w98.cell? ⟨gb183, 1, none⟩ = some (.int .i64 ((rd_T26 l0_0 x75_3).f1)) := (blk_cell BK183.out 1).trans rfl; have hcz99_2 : w98.cell? ⟨gb183, 2, none⟩ = some (.int .i64 ((rd_T26 l0_0 x75_3).f2)) := (blk_cell BK183.out 2).trans rfl; have hcz99_3 : w98.cell? ⟨gb183, 3, none⟩ = some (.int .i64 ((rd_T26 l0_0 x75_3).f3)) := (blk_cell BK183.out 3).trans rfl; have hcz99_4 : w98.cell? ⟨gb183, 4, none⟩ = some (.int .i64 ((rd_T26 l0_0 x75_3).f4)) := (blk_cell BK183.out 4).trans rfl; have hcz99_5 : w98.cell? ⟨gb183, 5, none⟩ = some (.int .i64 ((rd_T26 l0_0 x75_3).f5)) := (blk_cell BK183.out 5).trans rfl; have hfz99_0 := blk_frozen BK183.out 0; have hfz99_1 := blk_frozen BK183.out 1; have hfz99_2 := blk_frozen BK183.out 2; have hfz99_3 := blk_frozen BK183.out 3; have hfz99_4 := blk_frozen BK183.out 4; have hfz99_5 := blk_frozen BK183.out 5; have hcz100_0 : w98.cell? ⟨gb179, 0, none⟩ = some (.slice (some ad182) l0_0.length c0_0) := (blk_cell BK179.out 0).trans rfl; have hcz100_1 : w98.cell? ⟨gb179, 1, none⟩ = some (.slice A0_1 l0_1.length c0_1) := (blk_cell BK179.out 1).trans rfl; have hcz100_2 : w98.cell? ⟨gb179, 2, none⟩ = some (.int .i64 a0_2) := (blk_cell BK179.out 2).trans rfl; have hcz100_3 : w98.cell? ⟨gb179, 3, none⟩ = some (.int .i64 a0_3) := (blk_cell BK179.out 3).trans rfl; have hfz100_0 := blk_frozen BK179.out 0; have hfz100_1 := blk_frozen BK179.out 1; have hfz100_2 := blk_frozen BK179.out 2; have hfz100_3 := blk_frozen BK179.out 3))
                                  go_roundg k3
                                  case measure => have := HJ1.out; have := HK2.out; have := HK3.out; omega
                                  case rel => exact ⟨(wrap64 (x75_3 + 1)), (by first | rfl | (simp; done) | (simp [*]; done)), H', ⟨by have := HJ1.out; have := HK2.out; have := HK3.out; omega⟩, ⟨by (with_reducible repeat (first | refine blk_drewN ?_ _ | refine blk_drew ?_ | refine blk_alloc ?_ _)); exact BK179.out⟩, ⟨by repeat (first | (with_reducible first | exact HB.out | apply below_alloc | apply pw_below_drewN | apply below_drew1 | refine below_set ?_ GE179.out | refine below_set ?_ GE183.out) | exact HB.out)⟩⟩
                              · rw [if_neg c87] at H
                                have c87b0 : (((rd_T26 l0_0 x75_3).f0) == 8) = false := beq_eq_false_iff_ne.mpr c87
                                have c87b1 : (((rd_T26 l0_0 x75_3).f0) != 8) = true := bne_iff_ne.mpr c87
                                have H' := Aside0.mk H
                                clear H
                                have p182 : 0 ≤ (x75_3 : Int) := of_decide_eq_true (by first | (with_reducible assumption) | assumption)
                                have q182 : x75_3 < (l0_0.length : Int) := of_decide_eq_true (by first | (with_reducible assumption) | assumption)
                                obtain ⟨ad182, e182, hx182_0, hx182_1, hx182_2, hx182_3, hx182_4, hx182_5⟩ := at_T26 HR0_0.out x75_3 p182 q182
                                cases e182
                                replace hx182_0 := (HB.out.cell (World.block_lt_of_cell? w _ hx182_0)).trans hx182_0
                                replace hx182_1 := (HB.out.cell (World.block_lt_of_cell? w _ hx182_1)).trans hx182_1
                                replace hx182_2 := (HB.out.cell (World.block_lt_of_cell? w _ hx182_2)).trans hx182_2
                                replace hx182_3 := (HB.out.cell (World.block_lt_of_cell? w _ hx182_3)).trans hx182_3
                                replace hx182_4 := (HB.out.cell (World.block_lt_of_cell? w _ hx182_4)).trans hx182_4
                                replace hx182_5 := (HB.out.cell (World.block_lt_of_cell? w _ hx182_5)).trans hx182_5
                                replace p182 := eq_true p182
                                replace q182 := eq_true q182
                                go_wp2_with (first | ((with_reducible refine gate_dst (N := 7) rfl ?_); (try (refine gate_guard (by rfl) ?_; dsimp only)); refine box_event ?hg (N := 7) ?hd (cs := #[.int .i64 0, .int .i64 0, .int .i64 0, .int .i64 0, .int .i64 0, .int .i64 0]) (t := 26) ?hr ?_; (case hd => rfl); (case hg => rfl); (case hr => first | (go_simp; done) | (go_simp; rfl)); intro gb183 hg w101 hbox hb; have n0_ := Aside0.mk (blk_below (g := gb179) (o := .cells #[.slice (some ad182) l0_0.length c0_0, .slice A0_1 l0_1.length c0_1, .int .i64 a0_2, .int .i64 a0_3] 30 (0, 0)) (by (with_reducible repeat (first | refine blk_drewN ?_ _ | refine blk_drew ?_ | refine blk_alloc ?_ _)); exact BK179.out) hb); have n1_ := Aside0.mk (below_step (by repeat (first | (with_reducible first | exact HB.out | apply below_alloc | apply pw_below_drewN | apply below_drew1 | refine below_set ?_ GE179.out) | exact HB.out)) hb); have n2_ := Aside0.mk (hbox); have n3_ := Aside0.mk ((by rw [hg]; exact (below_size (by repeat (first | (with_reducible first | exact HB.out | apply below_alloc | apply pw_below_drewN | apply below_drew1 | refine below_set ?_ GE179.out) | exact HB.out))) : w.heap.size ≤ gb183)); have n4_ := Aside0.mk ((by rw [hg]; exact (below_size (by repeat (first | (with_reducible first | exact HB.out | apply below_alloc | apply pw_below_drewN | apply below_drew1 | refine below_set ?_ GE179.out) | exact HB.out))) : w.heap.size ≤ gb183)); have n5_ := Aside0.mk ((by rw [hg]; exact Nat.ne_of_lt (blk_lt (g := gb179) (o := .cells #[.slice (some ad182) l0_0.length c0_0, .slice A0_1 l0_1.length c0_1, .int .i64 a0_2, .int .i64 a0_3] 30 (0, 0)) (by (with_reducible repeat (first | refine blk_drewN ?_ _ | refine blk_drew ?_ | refine blk_alloc ?_ _)); exact BK179.out)) : gb179 ≠ gb183)); have n6_ := Aside0.mk ((by rw [hg]; exact Nat.ne_of_gt (blk_lt (g := gb179) (o := .cells #[.slice (some ad182) l0_0.length c0_0, .slice A0_1 l0_1.length c0_1, .int .i64 a0_2, .int .i64 a0_3] 30 (0, 0)) (by (with_reducible repeat (first | refine blk_drewN ?_ _ | refine blk_drew ?_ | refine blk_alloc ?_ _)); exact BK179.out)) : gb183 ≠ gb179)); clear BK179; clear HB; have BK179 := n0_; have HB := n1_; have BK183 := n2_; have GW183 := n3_; have GE183 := n4_; have NB179_183 := n5_; have NB183_179 := n6_; clear n0_ n1_ n2_ n3_ n4_ n5_ n6_; clear hb hbox hg; have hnb102 := NB183_179.out; have hnc102 := NB179_183.out; have hcz103_0 : w101.cell? ⟨gb183, 0, none⟩ = some (.int .i64 0) := (blk_cell BK183.out 0).trans rfl; have hcz103_1 : w101.cell? ⟨gb183, 1, none⟩ = some (.int .i64 0) := (blk_cell BK183.out 1).trans rfl; have hcz103_2 : w101.cell? ⟨gb183, 2, none⟩ = some (.int .i64 0) := (blk_cell BK183.out 2).trans rfl; have hcz103_3 : w101.cell? ⟨gb183, 3, none⟩ = some (.int .i64 0) := (blk_cell BK183.out 3).trans rfl; have hcz103_4 : w101.cell? ⟨gb183, 4, none⟩ = some (.int .i64 0) := (blk_cell BK183.out 4).trans rfl; have hcz103_5 : w101.cell? ⟨gb183, 5, none⟩ = some (.int .i64 0) := (blk_cell BK183.out 5).trans rfl; have hfz103_0 := blk_frozen BK183.out 0; have hfz103_1 := blk_frozen BK183.out 1; have hfz103_2 := blk_frozen BK183.out 2; have hfz103_3 := blk_frozen BK183.out 3; have hfz103_4 := blk_frozen BK183.out 4; have hfz103_5 := blk_frozen BK183.out 5) | ((with_reducible refine gate_callee (f := 17) rfl ?_); refine goesL_ (some 93) rfl rfl Try.func17 (by kernel_rfl) rfl #[.agg #[.int .i64 ((rd_T26 l0_0 x75_3).f0), .int .i64 ((rd_T26 l0_0 x75_3).f1), .int .i64 ((rd_T26 l0_0 x75_3).f2), .int .i64 ((rd_T26 l0_0 x75_3).f3), .int .i64 ((rd_T26 l0_0 x75_3).f4), .int .i64 ((rd_T26 l0_0 x75_3).f5)]] rfl (by (try simp only [List.map_toArray, List.map_cons, List.map_nil]); first | done | rfl | (simp only [List.length_drop, List.length_take]; rfl)) ?_; (with_reducible refine (code_Ins_Right.calls k3 ((rd_T26 l0_0 x75_3).f0) ((rd_T26 l0_0 x75_3).f1) ((rd_T26 l0_0 x75_3).f2) ((rd_T26 l0_0 x75_3).f3) ((rd_T26 l0_0 x75_3).f4) ((rd_T26 l0_0 x75_3).f5) true _ A85.out).mono ?_); rintro e w104 ⟨rfl, hb⟩; refine ⟨_, rfl, ?_⟩; have n0_ := Aside0.mk (blk_below (g := gb179) (o := .cells #[.slice (some ad182) l0_0.length c0_0, .slice A0_1 l0_1.length c0_1, .int .i64 a0_2, .int .i64 a0_3] 30 (0, 0)) (by (with_reducible repeat (first | refine blk_drewN ?_ _ | refine blk_drew ?_ | refine blk_alloc ?_ _)); refine blk_far ?_ NB179_183.out _; (with_reducible repeat (first | refine blk_drewN ?_ _ | refine blk_drew ?_ | refine blk_alloc ?_ _)); refine blk_far ?_ NB179_183.out _; (with_reducible repeat (first | refine blk_drewN ?_ _ | refine blk_drew ?_ | refine blk_alloc ?_ _)); refine blk_far ?_ NB179_183.out _; (with_reducible repeat (first | refine blk_drewN ?_ _ | refine blk_drew ?_ | refine blk_alloc ?_ _)); refine blk_far ?_ NB179_183.out _; (with_reducible repeat (first | refine blk_drewN ?_ _ | refine blk_drew ?_ | refine blk_alloc ?_ _)); refine blk_far ?_ NB179_183.out _; (with_reducible repeat (first | refine blk_drewN ?_ _ | refine blk_drew ?_ | refine blk_alloc ?_ _)); refine blk_far ?_ NB179_183.out _; (with_reducible repeat (first | refine blk_drewN ?_ _ | refine blk_drew ?_ | refine blk_alloc ?_ _)); exact BK179.out) hb); have n1_ := Aside0.mk (blk_below (g := gb183) (o := .cells #[.int .i64 ((rd_T26 l0_0 x75_3).f0), .int .i64 ((rd_T26 l0_0 x75_3).f1), .int .i64 ((rd_T26 l0_0 x75_3).f2), .int .i64 ((rd_T26 l0_0 x75_3).f3), .int .i64 ((rd_T26 l0_0 x75_3).f4), .int .i64 ((rd_T26 l0_0 x75_3).f5)] 26 (0, 0)) (by (with_reducible repeat (first | refine blk_drewN ?_ _ | refine blk_drew ?_ | refine blk_alloc ?_ _)); refine blk_put (cs := #[.int .i64 ((rd_T26 l0_0 x75_3).f0), .int .i64 ((rd_T26 l0_0 x75_3).f1), .int .i64 ((rd_T26 l0_0 x75_3).f2), .int .i64 ((rd_T26 l0_0 x75_3).f3), .int .i64 ((rd_T26 l0_0 x75_3).f4), .int .i64 0]) ?_ 5 _ rfl; (with_reducible repeat (first | refine blk_drewN ?_ _ | refine blk_drew ?_ | refine blk_alloc ?_ _)); refine blk_put (cs := #[.int .i64 ((rd_T26 l0_0 x75_3).f0), .int .i64 ((rd_T26 l0_0 x75_3).f1), .int .i64 ((rd_T26 l0_0 x75_3).f2), .int .i64 ((rd_T26 l0_0 x75_3).f3), .int .i64 0, .int .i64 0]) ?_ 4 _ rfl; (with_reducible repeat (first | refine blk_drewN ?_ _ | refine blk_drew ?_ | refine blk_alloc ?_ _)); refine blk_put (cs := #[.int .i64 ((rd_T26 l0_0 x75_3).f0), .int .i64 ((rd_T26 l0_0 x75_3).f1), .int .i64 ((rd_T26 l0_0 x75_3).f2), .int .i64 0, .int .i64 0, .int .i64 0]) ?_ 3 _ rfl; (with_reducible repeat (first | refine blk_drewN ?_ _ | refine blk_drew ?_ | refine blk_alloc ?_ _)); refine blk_put (cs := #[.int .i64 ((rd_T26 l0_0 x75_3).f0), .int .i64 ((rd_T26 l0_0 x75_3).f1), .int .i64 0, .int .i64 0, .int .i64 0, .int .i64 0]) ?_ 2 _ rfl; (with_reducible repeat (first | refine blk_drewN ?_ _ | refine blk_drew ?_ | refine blk_alloc ?_ _)); refine blk_put (cs := #[.int .i64 ((rd_T26 l0_0 x75_3).f0), .int .i64 0, .int .i64 0, .int .i64 0, .int .i64 0, .int .i64 0]) ?_ 1 _ rfl; (with_reducible repeat (first | refine blk_drewN ?_ _ | refine blk_drew ?_ | refine blk_alloc ?_ _)); refine blk_put (cs := #[.int .i64 0, .int .i64 0, .int .i64 0, .int .i64 0, .int .i64 0, .int .i64 0]) ?_ 0 _ rfl; (with_reducible repeat (first | refine blk_drewN ?_ _ | refine blk_drew ?_ | refine blk_alloc ?_ _)); exact BK183.out) hb); have n2_ := Aside0.mk (below_step (by repeat (first | (with_reducible first | exact HB.out | apply below_alloc | apply pw_below_drewN | apply below_drew1 | refine below_set ?_ GE179.out | refine below_set ?_ GE183.out) | exact HB.out)) hb); clear BK179; clear BK183; clear HB; have BK179 := n0_; have BK183 := n1_; have HB := n2_; clear n0_ n1_ n2_; (try clear hb); (try clear hb2); (try clear hk); (try clear hi)))
                                go_roundg k3
                                case measure => have := HJ1.out; have := HK2.out; have := HK3.out; omega
                                case rel => exact ⟨(wrap64 (x75_3 + 1)), (by first | rfl | (simp; done) | (simp [*]; done)), H', ⟨by have := HJ1.out; have := HK2.out; have := HK3.out; omega⟩, ⟨by (with_reducible repeat (first | refine blk_drewN ?_ _ | refine blk_drew ?_ | refine blk_alloc ?_ _)); exact BK179.out⟩, ⟨by repeat (first | (with_reducible first | exact HB.out | apply below_alloc | apply pw_below_drewN | apply below_drew1 | refine below_set ?_ GE179.out | refine below_set ?_ GE183.out) | exact HB.out)⟩⟩
                            · replace c86 := Bool.eq_false_iff.mpr c86
                              subst c86
                              have H1 : (some false) = some r := by rw [if_neg (show ¬ (false = true) by decide)] at H; exact H
                              clear H
                              have H := H1
                              clear H1
                              obtain rfl := Option.some.inj H
                              have p182 : 0 ≤ (x75_3 : Int) := of_decide_eq_true (by first | (with_reducible assumption) | assumption)
                              have q182 : x75_3 < (l0_0.length : Int) := of_decide_eq_true (by first | (with_reducible assumption) | assumption)
                              obtain ⟨ad182, e182, hx182_0, hx182_1, hx182_2, hx182_3, hx182_4, hx182_5⟩ := at_T26 HR0_0.out x75_3 p182 q182
                              cases e182
                              replace hx182_0 := (HB.out.cell (World.block_lt_of_cell? w _ hx182_0)).trans hx182_0
                              replace hx182_1 := (HB.out.cell (World.block_lt_of_cell? w _ hx182_1)).trans hx182_1
                              replace hx182_2 := (HB.out.cell (World.block_lt_of_cell? w _ hx182_2)).trans hx182_2
                              replace hx182_3 := (HB.out.cell (World.block_lt_of_cell? w _ hx182_3)).trans hx182_3
                              replace hx182_4 := (HB.out.cell (World.block_lt_of_cell? w _ hx182_4)).trans hx182_4
                              replace hx182_5 := (HB.out.cell (World.block_lt_of_cell? w _ hx182_5)).trans hx182_5
                              replace p182 := eq_true p182
                              replace q182 := eq_true q182
                              go_wp2_with (first | ((with_reducible refine gate_dst (N := 7) rfl ?_); (try (refine gate_guard (by rfl) ?_; dsimp only)); refine box_event ?hg (N := 7) ?hd (cs := #[.int .i64 0, .int .i64 0, .int .i64 0, .int .i64 0, .int .i64 0, .int .i64 0]) (t := 26) ?hr ?_; (case hd => rfl); (case hg => rfl); (case hr => first | (go_simp; done) | (go_simp; rfl)); intro gb183 hg w105 hbox hb; have n0_ := Aside0.mk (blk_below (g := gb179) (o := .cells #[.slice (some ad182) l0_0.length c0_0, .slice A0_1 l0_1.length c0_1, .int .i64 a0_2, .int .i64 a0_3] 30 (0, 0)) (by (with_reducible repeat (first | refine blk_drewN ?_ _ | refine blk_drew ?_ | refine blk_alloc ?_ _)); exact BK179.out) hb); have n1_ := Aside0.mk (below_step (by repeat (first | (with_reducible first | exact HB.out | apply below_alloc | apply pw_below_drewN | apply below_drew1 | refine below_set ?_ GE179.out) | exact HB.out)) hb); have n2_ := Aside0.mk (hbox); have n3_ := Aside0.mk ((by rw [hg]; exact (below_size (by repeat (first | (with_reducible first | exact HB.out | apply below_alloc | apply pw_below_drewN | apply below_drew1 | refine below_set ?_ GE179.out) | exact HB.out))) : w.heap.size ≤ gb183)); have n4_ := Aside0.mk ((by rw [hg]; exact (below_size (by repeat (first | (with_reducible first | exact HB.out | apply below_alloc | apply pw_below_drewN | apply below_drew1 | refine below_set ?_ GE179.out) | exact HB.out))) : w.heap.size ≤ gb183)); have n5_ := Aside0.mk ((by rw [hg]; exact Nat.ne_of_lt (blk_lt (g := gb179) (o := .cells #[.slice (some ad182) l0_0.length c0_0, .slice A0_1 l0_1.length c0_1, .int .i64 a0_2, .int .i64 a0_3] 30 (0, 0)) (by (with_reducible repeat (first | refine blk_drewN ?_ _ | refine blk_drew ?_ | refine blk_alloc ?_ _)); exact BK179.out)) : gb179 ≠ gb183)); have n6_ := Aside0.mk ((by rw [hg]; exact Nat.ne_of_gt (blk_lt (g := gb179) (o := .cells #[.slice (some ad182) l0_0.length c0_0, .slice A0_1 l0_1.length c0_1, .int .i64 a0_2, .int .i64 a0_3] 30 (0, 0)) (by (with_reducible repeat (first | refine blk_drewN ?_ _ | refine blk_drew ?_ | refine blk_alloc ?_ _)); exact BK179.out)) : gb183 ≠ gb179)); clear BK179; clear HB; have BK179 := n0_; have HB := n1_; have BK183 := n2_; have GW183 := n3_; have GE183 := n4_; have NB179_183 := n5_; have NB183_179 := n6_; clear n0_ n1_ n2_ n3_ n4_ n5_ n6_; clear hb hbox hg; have hnb106 := NB183_179.out; have hnc106 := NB179_183.out; have hcz107_0 : w105.cell? ⟨gb183, 0, none⟩ = some (.int .i64 0) := (blk_cell BK183.out 0).trans rfl; have hcz107_1 : w105.cell? ⟨gb183, 1, none⟩ = some (.int .i64 0) := (blk_cell BK183.out 1).trans rfl; have hcz107_2 : w105.cell? ⟨gb183, 2, none⟩ = some (.int .i64 0) := (blk_cell BK183.out 2).trans rfl; have hcz107_3 : w105.cell? ⟨gb183, 3, none⟩ = some (.int .i64 0) := (blk_cell BK183.out 3).trans rfl; have hcz107_4 : w105.cell? ⟨gb183, 4, none⟩ = some (.int .i64 0) := (blk_cell BK183.out 4).trans rfl; have hcz107_5 : w105.cell? ⟨gb183, 5, none⟩ = some (.int .i64 0) := (blk_cell BK183.out 5).trans rfl; have hfz107_0 := blk_frozen BK183.out 0; have hfz107_1 := blk_frozen BK183.out 1; have hfz107_2 := blk_frozen BK183.out 2; have hfz107_3 := blk_frozen BK183.out 3; have hfz107_4 := blk_frozen BK183.out 4; have hfz107_5 := blk_frozen BK183.out 5) | ((with_reducible refine gate_callee (f := 17) rfl ?_); refine goesL_ (some 93) rfl rfl Try.func17 (by kernel_rfl) rfl #[.agg #[.int .i64 ((rd_T26 l0_0 x75_3).f0), .int .i64 ((rd_T26 l0_0 x75_3).f1), .int .i64 ((rd_T26 l0_0 x75_3).f2), .int .i64 ((rd_T26 l0_0 x75_3).f3), .int .i64 ((rd_T26 l0_0 x75_3).f4), .int .i64 ((rd_T26 l0_0 x75_3).f5)]] rfl (by (try simp only [List.map_toArray, List.map_cons, List.map_nil]); first | done | rfl | (simp only [List.length_drop, List.length_take]; rfl)) ?_; (with_reducible refine (code_Ins_Right.calls k3 ((rd_T26 l0_0 x75_3).f0) ((rd_T26 l0_0 x75_3).f1) ((rd_T26 l0_0 x75_3).f2) ((rd_T26 l0_0 x75_3).f3) ((rd_T26 l0_0 x75_3).f4) ((rd_T26 l0_0 x75_3).f5) false _ A85.out).mono ?_); rintro e w108 ⟨rfl, hb⟩; refine ⟨_, rfl, ?_⟩; have n0_ := Aside0.mk (blk_below (g := gb179) (o := .cells #[.slice (some ad182) l0_0.length c0_0, .slice A0_1 l0_1.length c0_1, .int .i64 a0_2, .int .i64 a0_3] 30 (0, 0)) (by (with_reducible repeat (first | refine blk_drewN ?_ _ | refine blk_drew ?_ | refine blk_alloc ?_ _)); refine blk_far ?_ NB179_183.out _; (with_reducible repeat (first | refine blk_drewN ?_ _ | refine blk_drew ?_ | refine blk_alloc ?_ _)); refine blk_far ?_ NB179_183.out _; (with_reducible repeat (first | refine blk_drewN ?_ _ | refine blk_drew ?_ | refine blk_alloc ?_ _)); refine blk_far ?_ NB179_183.out _; (with_reducible repeat (first | refine blk_drewN ?_ _ | refine blk_drew ?_ | refine blk_alloc ?_ _)); refine blk_far ?_ NB179_183.out _; (with_reducible repeat (first | refine blk_drewN ?_ _ | refine blk_drew ?_ | refine blk_alloc ?_ _)); refine blk_far ?_ NB179_183.out _; (with_reducible repeat (first | refine blk_drewN ?_ _ | refine blk_drew ?_ | refine blk_alloc ?_ _)); refine blk_far ?_ NB179_183.out _; (with_reducible repeat (first | refine blk_drewN ?_ _ | refine blk_drew ?_ | refine blk_alloc ?_ _)); exact BK179.out) hb); have n1_ := Aside0.mk (blk_below (g := gb183) (o := .cells #[.int .i64 ((rd_T26 l0_0 x75_3).f0), .int .i64 ((rd_T26 l0_0 x75_3).f1), .int .i64 ((rd_T26 l0_0 x75_3).f2), .int .i64 ((rd_T26 l0_0 x75_3).f3), .int .i64 ((rd_T26 l0_0 x75_3).f4), .int .i64 ((rd_T26 l0_0 x75_3).f5)] 26 (0, 0)) (by (with_reducible repeat (first | refine blk_drewN ?_ _ | refine blk_drew ?_ | refine blk_alloc ?_ _)); refine blk_put (cs := #[.int .i64 ((rd_T26 l0_0 x75_3).f0), .int .i64 ((rd_T26 l0_0 x75_3).f1), .int .i64 ((rd_T26 l0_0 x75_3).f2), .int .i64 ((rd_T26 l0_0 x75_3).f3), .int .i64 ((rd_T26 l0_0 x75_3).f4), .int .i64 0]) ?_ 5 _ rfl; (with_reducible repeat (first | refine blk_drewN ?_ _ | refine blk_drew ?_ | refine blk_alloc ?_ _)); refine blk_put (cs := #[.int .i64 ((rd_T26 l0_0 x75_3).f0), .int .i64 ((rd_T26 l0_0 x75_3).f1), .int .i64 ((rd_T26 l0_0 x75_3).f2), .int .i64 ((rd_T26 l0_0 x75_3).f3), .int .i64 0, .int .i64 0]) ?_ 4 _ rfl; (with_reducible repeat (first | refine blk_drewN ?_ _ | refine blk_drew ?_ | refine blk_alloc ?_ _)); refine blk_put (cs := #[.int .i64 ((rd_T26 l0_0 x75_3).f0), .int .i64 ((rd_T26 l0_0 x75_3).f1), .int .i64 ((rd_T26 l0_0 x75_3).f2), .int .i64 0, .int .i64 0, .int .i64 0]) ?_ 3 _ rfl; (with_reducible repeat (first | refine blk_drewN ?_ _ | refine blk_drew ?_ | refine blk_alloc ?_ _)); refine blk_put (cs := #[.int .i64 ((rd_T26 l0_0 x75_3).f0), .int .i64 ((rd_T26 l0_0 x75_3).f1), .int .i64 0, .int .i64 0, .int .i64 0, .int .i64 0]) ?_ 2 _ rfl; (with_reducible repeat (first | refine blk_drewN ?_ _ | refine blk_drew ?_ | refine blk_alloc ?_ _)); refine blk_put (cs := #[.int .i64 ((rd_T26 l0_0 x75_3).f0), .int .i64 0, .int .i64 0, .int .i64 0, .int .i64 0, .int .i64 0]) ?_ 1 _ rfl; (with_reducible repeat (first | refine blk_drewN ?_ _ | refine blk_drew ?_ | refine blk_alloc ?_ _)); refine blk_put (cs := #[.int .i64 0, .int .i64 0, .int .i64 0, .int .i64 0, .int .i64 0, .int .i64 0]) ?_ 0 _ rfl; (with_reducible repeat (first | refine blk_drewN ?_ _ | refine blk_drew ?_ | refine blk_alloc ?_ _)); exact BK183.out) hb); have n2_ := Aside0.mk (below_step (by repeat (first | (with_reducible first | exact HB.out | apply below_alloc | apply pw_below_drewN | apply below_drew1 | refine below_set ?_ GE179.out | refine below_set ?_ GE183.out) | exact HB.out)) hb); clear BK179; clear BK183; clear HB; have BK179 := n0_; have BK183 := n1_; have HB := n2_; clear n0_ n1_ n2_; (try clear hb); (try clear hb2); (try clear hk); (try clear hi)))
                              go_ret
                              exact ⟨by first | rfl | (simp [errW_none, errW_some] <;> rfl) | (simp [*, errW_none, errW_some] <;> rfl), by repeat (first | (with_reducible first | exact HB.out | apply below_alloc | apply pw_below_drewN | apply below_drew1 | refine below_set ?_ GE179.out | refine below_set ?_ GE183.out) | exact HB.out)⟩
                      · rw [if_neg c44] at H
                        exact absurd H (by simp)
                    · rw [if_neg c43] at H
                      exact absurd H (by simp)
                  · rw [if_neg c42] at H
                    have c42b0 : decide (x75_3 < (l0_0.length : Int)) = false := decide_eq_false c42
                    clear c42
                    obtain rfl := Option.some.inj H
                    have hcz109_0 : wr.cell? ⟨gb179, 0, none⟩ = some (.slice A0_0 l0_0.length c0_0) := (blk_cell BK179.out 0).trans rfl
                    have hcz109_1 : wr.cell? ⟨gb179, 1, none⟩ = some (.slice A0_1 l0_1.length c0_1) := (blk_cell BK179.out 1).trans rfl
                    have hcz109_2 : wr.cell? ⟨gb179, 2, none⟩ = some (.int .i64 a0_2) := (blk_cell BK179.out 2).trans rfl
                    have hcz109_3 : wr.cell? ⟨gb179, 3, none⟩ = some (.int .i64 a0_3) := (blk_cell BK179.out 3).trans rfl
                    have hfz109_0 := blk_frozen BK179.out 0
                    have hfz109_1 := blk_frozen BK179.out 1
                    have hfz109_2 := blk_frozen BK179.out 2
                    have hfz109_3 := blk_frozen BK179.out 3
                    go_wp2
                    go_ret
                    exact ⟨by first | rfl | (simp [errW_none, errW_some] <;> rfl) | (simp [*, errW_none, errW_some] <;> rfl), by repeat (first | (with_reducible first | exact HB.out | apply below_alloc | apply pw_below_drewN | apply below_drew1 | refine below_set ?_ GE179.out) | exact HB.out)⟩


end Go.Proofs.Yteabbcnoamhofaa.B
