/- Out of the kit's print of this seat's functions, put together by a program of mine. -/
import Derived.Test.YtaammdmaldodaaaDoorBx1
namespace Go.Proofs.YtaammdmaldodaaaDoor.B
open Go.RowKit Go.Proofs.YtaammdmaldodaaaDoorW.PrintWords Go.Proofs.YtaammdmaldodaaaDoorW.PrintLast Go.Proofs.YtaammdmaldodaaaDoorW.PrintMore
attribute [local go_sem] max2_int min2_int max_two min_two max_three min_three max_four min_four   -- for this text's walks alone
set_option linter.unusedVariables false
set_option linter.unusedSimpArgs false

-- NOT PRINTED: function 8 (ast_Sign)

-- NOT PRINTED: function 55 (abi_NoEscape)

-- NOT PRINTED: function 46 (strings_Builder_copyCheck)

-- NOT PRINTED: function 37 (strings_Builder_WriteString)

-- NOT PRINTED: function 39 (strings_Builder_String)

-- NOT PRINTED: function 56 (bytealg_MakeNoZero)

-- NOT PRINTED: function 50 (strings_Builder_grow)

-- NOT PRINTED: function 43 (strings_Builder_Grow)

-- NOT PRINTED: function 38 (strings_Join)

/-! ### palingslaw03_Few: function 9 -/
mutual
def palingslaw03_Few.j0 : Nat → Int → Bool → Int → Int → Int → Int → ByteArray → Int → List (S31) → Option (Bool)
  | 0, _, _, _, _, _, _, _, _, _ => none
  | k + 1, x1, x20, x126000, x126001, x126002, x126003, x126004, x126005, x126006 => if x20 = true then (some false) else (palingslaw03_Few.l0 k x1 x126006 (x126006.length : Int) 0)
def palingslaw03_Few.l0 : Nat → Int → List (S31) → Int → Int → Option (Bool)
  | 0, _, _, _, _ => none
  | k + 1, x1, x22, x23, x24 => if x24 < x23 then (if 0 ≤ x24 then (if x24 < (x22.length : Int) then ((palingslaw03_Few.f k ((rd_T31 x22 x24).f0) ((rd_T31 x22 x24).f1.f0) ((rd_T31 x22 x24).f1.f1) ((rd_T31 x22 x24).f2) ((rd_T31 x22 x24).f3) ((rd_T31 x22 x24).f4) ((rd_T31 x22 x24).f5) (wrap64 (x1 + 1))).bind fun t128 => (if t128 = true then (palingslaw03_Few.l0 k x1 x22 x23 (wrap64 (x24 + 1))) else (some false))) else (none)) else (none)) else (some true)
def palingslaw03_Few.f : Nat → Int → Int → Int → Int → ByteArray → Int → List (S31) → Int → Option (Bool)
  | 0, _, _, _, _, _, _, _, _ => none
  | k + 1, a0_0, a0_1, a0_2, a0_3, a0_4, a0_5, l0_6, a1 => if a1 > 8 then (palingslaw03_Few.j0 k a1 true a0_0 a0_1 a0_2 a0_3 a0_4 a0_5 l0_6) else (if (l0_6.length : Int) > 6 then (palingslaw03_Few.j0 k a1 true a0_0 a0_1 a0_2 a0_3 a0_4 a0_5 l0_6) else (palingslaw03_Few.j0 k a1 (decide ((a0_4.size : Int) > 40)) a0_0 a0_1 a0_2 a0_3 a0_4 a0_5 l0_6))
end
theorem palingslaw03_Few.mono_l : ∀ k, (∀ y0 y1 y2 y3 y4 y5 y6 y7, LeO (palingslaw03_Few.f k y0 y1 y2 y3 y4 y5 y6 y7) (palingslaw03_Few.f (k + 1) y0 y1 y2 y3 y4 y5 y6 y7)) ∧ (∀ y0 y1 y2 y3 y4 y5 y6 y7 y8, LeO (palingslaw03_Few.j0 k y0 y1 y2 y3 y4 y5 y6 y7 y8) (palingslaw03_Few.j0 (k + 1) y0 y1 y2 y3 y4 y5 y6 y7 y8)) ∧ (∀ y0 y1 y2 y3, LeO (palingslaw03_Few.l0 k y0 y1 y2 y3) (palingslaw03_Few.l0 (k + 1) y0 y1 y2 y3))
  | 0 => ⟨fun _ _ _ _ _ _ _ _ r h => by simp [palingslaw03_Few.f] at h, fun _ _ _ _ _ _ _ _ _ r h => by simp [palingslaw03_Few.j0] at h, fun _ _ _ _ r h => by simp [palingslaw03_Few.l0] at h⟩
  | k + 1 => by
    obtain ⟨ih0, ih1, ih2⟩ := palingslaw03_Few.mono_l k
    refine ⟨?_, ?_, ?_⟩
    · intro y0 y1 y2 y3 y4 y5 y6 y7
      unfold palingslaw03_Few.f
      repeat' first
      | (with_reducible exact ih0 _ _ _ _ _ _ _ _)
      | (with_reducible exact ih1 _ _ _ _ _ _ _ _ _)
      | (with_reducible exact ih2 _ _ _ _)
      | (with_reducible exact LeO.refl _)
      | (with_reducible exact LeO.none _)
      | (with_reducible refine LeO.ite ?_ ?_)
      | (with_reducible refine LeO.bind ?_ (fun _ => ?_))
      | exact ih0 _ _ _ _ _ _ _ _
      | exact ih1 _ _ _ _ _ _ _ _ _
      | exact ih2 _ _ _ _
      | exact LeO.none _
      | refine LeO.ite ?_ ?_
      | refine LeO.bind ?_ (fun _ => ?_)
    · intro y0 y1 y2 y3 y4 y5 y6 y7 y8
      unfold palingslaw03_Few.j0
      repeat' first
      | (with_reducible exact ih0 _ _ _ _ _ _ _ _)
      | (with_reducible exact ih1 _ _ _ _ _ _ _ _ _)
      | (with_reducible exact ih2 _ _ _ _)
      | (with_reducible exact LeO.refl _)
      | (with_reducible exact LeO.none _)
      | (with_reducible refine LeO.ite ?_ ?_)
      | (with_reducible refine LeO.bind ?_ (fun _ => ?_))
      | exact ih0 _ _ _ _ _ _ _ _
      | exact ih1 _ _ _ _ _ _ _ _ _
      | exact ih2 _ _ _ _
      | exact LeO.none _
      | refine LeO.ite ?_ ?_
      | refine LeO.bind ?_ (fun _ => ?_)
    · intro y0 y1 y2 y3
      unfold palingslaw03_Few.l0
      repeat' first
      | (with_reducible exact ih0 _ _ _ _ _ _ _ _)
      | (with_reducible exact ih1 _ _ _ _ _ _ _ _ _)
      | (with_reducible exact ih2 _ _ _ _)
      | (with_reducible exact LeO.refl _)
      | (with_reducible exact LeO.none _)
      | (with_reducible refine LeO.ite ?_ ?_)
      | (with_reducible refine LeO.bind ?_ (fun _ => ?_))
      | exact ih0 _ _ _ _ _ _ _ _
      | exact ih1 _ _ _ _ _ _ _ _ _
      | exact ih2 _ _ _ _
      | exact LeO.none _
      | refine LeO.ite ?_ ?_
      | refine LeO.bind ?_ (fun _ => ?_)
theorem palingslaw03_Few.mono : ∀ a0 a1 a2 a3 a4 a5 a6 a7 k, LeO (palingslaw03_Few.f k a0 a1 a2 a3 a4 a5 a6 a7) (palingslaw03_Few.f (k + 1) a0 a1 a2 a3 a4 a5 a6 a7) := by
  intro a0 a1 a2 a3 a4 a5 a6 a7 k
  obtain ⟨ih0, ih1, ih2⟩ := palingslaw03_Few.mono_l k
  exact ih0 a0 a1 a2 a3 a4 a5 a6 a7
set_option maxHeartbeats 8000000 in
set_option maxRecDepth 100000 in
theorem palingslaw03_Few.calls (k : Nat) : ∀ (a0_0 : Int) (a0_1 : Int) (a0_2 : Int) (a0_3 : Int) (a0_4 : ByteArray) (a0_5 : Int) (A0_6 : Option Addr) (c0_6 : Nat) (l0_6 : List (S31)) (a1 : Int) (r : Bool) (w : World) (hr0_6 : Kd.C k31 w A0_6 l0_6.length l0_6) (hc0_6 : l0_6.length ≤ c0_6) (h : palingslaw03_Few.f k a0_0 a0_1 a0_2 a0_3 a0_4 a0_5 l0_6 a1 = some r),
    Calls Tryd.prog 9 #[.agg #[.int .i64 a0_0, .int .i64 a0_1, .int .i64 a0_2, .int .i64 a0_3, .string a0_4, .int .i64 a0_5, .slice A0_6 l0_6.length c0_6], .int .i64 a1] w fun e w' => e = .returned (.bool r) ∧ Below w.heap.size w w' := by
  induction k using Nat.strongRecOn with
  | _ k ih =>
  intro a0_0 a0_1 a0_2 a0_3 a0_4 a0_5 A0_6 c0_6 l0_6 a1 r w hr0_6 hc0_6 h
  cases k with
  | zero => exact absurd h (by simp [palingslaw03_Few.f])
  | succ k =>
  simp only [palingslaw03_Few.f] at h
  have hu31 := Tryd.underlying31
  have HR0_6 := Aside0.mk hr0_6
  have HC0_6 := Aside0.mk hc0_6
  clear hr0_6 hc0_6
  have HB := Aside0.mk (Below.refl w.heap.size w)
  have H : (if a1 > 8 then (palingslaw03_Few.j0 k a1 true a0_0 a0_1 a0_2 a0_3 a0_4 a0_5 l0_6) else (if (l0_6.length : Int) > 6 then (palingslaw03_Few.j0 k a1 true a0_0 a0_1 a0_2 a0_3 a0_4 a0_5 l0_6) else (palingslaw03_Few.j0 k a1 (decide ((a0_4.size : Int) > 40)) a0_0 a0_1 a0_2 a0_3 a0_4 a0_5 l0_6))) = some r := h
  clear h
  have HC3 := Aside0.mk H
  clear H
  go_enter Tryd.func9, Tryd.ntmps9
  go_upto_region 1 with (first | ((with_reducible refine gate_dst (N := 2) rfl ?_); (try (refine gate_guard (by rfl) ?_; dsimp only)); refine box_event ?hg (N := 2) ?hd (cs := #[.int .i64 a0_0, .int .i64 a0_1, .int .i64 a0_2, .int .i64 a0_3, .string a0_4, .int .i64 a0_5, .slice A0_6 l0_6.length c0_6]) (t := 31) ?hr ?_; (case hd => rfl); (case hg => rfl); (case hr => first | (go_simp; done) | (go_simp; rfl)); intro gb125 hg w4 hbox hb; have n0_ := Aside0.mk (below_step (by repeat (first | (with_reducible first | exact HB.out | apply below_alloc | apply pw_below_drewN | apply below_drew1) | exact HB.out)) hb); have n1_ := Aside0.mk (hbox); have n2_ := Aside0.mk ((by rw [hg]; exact (below_size (by repeat (first | (with_reducible first | exact HB.out | apply below_alloc | apply pw_below_drewN | apply below_drew1) | exact HB.out))) : w.heap.size ≤ gb125)); have n3_ := Aside0.mk ((by rw [hg]; exact (below_size (by repeat (first | (with_reducible first | exact HB.out | apply below_alloc | apply pw_below_drewN | apply below_drew1) | exact HB.out))) : w.heap.size ≤ gb125)); clear HB; have HB := n0_; have BK125 := n1_; have GW125 := n2_; have GE125 := n3_; clear n0_ n1_ n2_ n3_; clear hb hbox hg))
  (try simp only [Act.put, List.setIfInBounds_toArray, List.set_cons_zero, List.set_cons_succ])
  go_cut [20] (fun v20 wc => ∃ (kq : Nat) (x20_2 : Bool), v20 = .bool x20_2 ∧ Aside0 (palingslaw03_Few.j0 kq a1 x20_2 a0_0 a0_1 a0_2 a0_3 a0_4 a0_5 l0_6 = some r) ∧ Aside0 (kq ≤ k) ∧ Aside0 (wc.heap[gb125]? = some (.cells #[.int .i64 a0_0, .int .i64 a0_1, .int .i64 a0_2, .int .i64 a0_3, .string a0_4, .int .i64 a0_5, (.slice A0_6 l0_6.length c0_6)] 31 (0, 0))) ∧ Aside0 (Below w.heap.size w wc))
  case first =>
    have H := HC3.out
    clear HC3
    by_cases c5 : a1 > 8
    · rw [if_pos c5] at H
      have c5b0 : decide (8 < a1) = true := decide_eq_true c5
      clear c5
      (first | rw [c5b0] | (simp only [i64_w, i32_w]; rw [c5b0]) | skip)
      have H' := Aside0.mk H
      clear H
      go_wp2
      go_meet
      case rel => exact ⟨_, (true), (by first | rfl | (simp; done) | (simp [*]; done)), H', ⟨by first | omega | exact Nat.le_refl _⟩, ⟨by (with_reducible repeat (first | refine blk_drewN ?_ _ | refine blk_drew ?_ | refine blk_alloc ?_ _)); exact BK125.out⟩, ⟨by repeat (first | (with_reducible first | exact HB.out | apply below_alloc | apply pw_below_drewN | apply below_drew1 | refine below_set ?_ GE125.out) | exact HB.out)⟩⟩
    · rw [if_neg c5] at H
      have c5b0 : decide (8 < a1) = false := decide_eq_false c5
      clear c5
      (first | rw [c5b0] | (simp only [i64_w, i32_w]; rw [c5b0]) | skip)
      by_cases c6 : (l0_6.length : Int) > 6
      · rw [if_pos c6] at H
        have c6b0 : decide (6 < (l0_6.length : Int)) = true := decide_eq_true c6
        have c6b1 : decide (6 < l0_6.length) = true := decide_eq_true (by omega)
        clear c6
        have H' := Aside0.mk H
        clear H
        have hcz7_0 : w4.cell? ⟨gb125, 0, none⟩ = some (.int .i64 a0_0) := (blk_cell BK125.out 0).trans rfl
        have hcz7_1 : w4.cell? ⟨gb125, 1, none⟩ = some (.int .i64 a0_1) := (blk_cell BK125.out 1).trans rfl
        have hcz7_2 : w4.cell? ⟨gb125, 2, none⟩ = some (.int .i64 a0_2) := (blk_cell BK125.out 2).trans rfl
        have hcz7_3 : w4.cell? ⟨gb125, 3, none⟩ = some (.int .i64 a0_3) := (blk_cell BK125.out 3).trans rfl
        have hcz7_4 : w4.cell? ⟨gb125, 4, none⟩ = some (.string a0_4) := (blk_cell BK125.out 4).trans rfl
        have hcz7_5 : w4.cell? ⟨gb125, 5, none⟩ = some (.int .i64 a0_5) := (blk_cell BK125.out 5).trans rfl
        have hcz7_6 : w4.cell? ⟨gb125, 6, none⟩ = some (.slice A0_6 l0_6.length c0_6) := (blk_cell BK125.out 6).trans rfl
        have hfz7_0 := blk_frozen BK125.out 0
        have hfz7_1 := blk_frozen BK125.out 1
        have hfz7_2 := blk_frozen BK125.out 2
        have hfz7_3 := blk_frozen BK125.out 3
        have hfz7_4 := blk_frozen BK125.out 4
        have hfz7_5 := blk_frozen BK125.out 5
        have hfz7_6 := blk_frozen BK125.out 6
        go_wp2
        go_meet
        case rel => exact ⟨_, (true), (by first | rfl | (simp; done) | (simp [*]; done)), H', ⟨by first | omega | exact Nat.le_refl _⟩, ⟨by (with_reducible repeat (first | refine blk_drewN ?_ _ | refine blk_drew ?_ | refine blk_alloc ?_ _)); exact BK125.out⟩, ⟨by repeat (first | (with_reducible first | exact HB.out | apply below_alloc | apply pw_below_drewN | apply below_drew1 | refine below_set ?_ GE125.out) | exact HB.out)⟩⟩
      · rw [if_neg c6] at H
        have c6b0 : decide (6 < (l0_6.length : Int)) = false := decide_eq_false c6
        have c6b1 : decide (6 < l0_6.length) = false := decide_eq_false (by omega)
        clear c6
        have H' := Aside0.mk H
        clear H
        have hcz8_0 : w4.cell? ⟨gb125, 0, none⟩ = some (.int .i64 a0_0) := (blk_cell BK125.out 0).trans rfl
        have hcz8_1 : w4.cell? ⟨gb125, 1, none⟩ = some (.int .i64 a0_1) := (blk_cell BK125.out 1).trans rfl
        have hcz8_2 : w4.cell? ⟨gb125, 2, none⟩ = some (.int .i64 a0_2) := (blk_cell BK125.out 2).trans rfl
        have hcz8_3 : w4.cell? ⟨gb125, 3, none⟩ = some (.int .i64 a0_3) := (blk_cell BK125.out 3).trans rfl
        have hcz8_4 : w4.cell? ⟨gb125, 4, none⟩ = some (.string a0_4) := (blk_cell BK125.out 4).trans rfl
        have hcz8_5 : w4.cell? ⟨gb125, 5, none⟩ = some (.int .i64 a0_5) := (blk_cell BK125.out 5).trans rfl
        have hcz8_6 : w4.cell? ⟨gb125, 6, none⟩ = some (.slice A0_6 l0_6.length c0_6) := (blk_cell BK125.out 6).trans rfl
        have hfz8_0 := blk_frozen BK125.out 0
        have hfz8_1 := blk_frozen BK125.out 1
        have hfz8_2 := blk_frozen BK125.out 2
        have hfz8_3 := blk_frozen BK125.out 3
        have hfz8_4 := blk_frozen BK125.out 4
        have hfz8_5 := blk_frozen BK125.out 5
        have hfz8_6 := blk_frozen BK125.out 6
        go_wp2
        go_meet
        case rel => exact ⟨_, (decide ((a0_4.size : Int) > 40)), (by first | rfl | (simp; done) | (simp [*]; done)), H', ⟨by first | omega | exact Nat.le_refl _⟩, ⟨by (with_reducible repeat (first | refine blk_drewN ?_ _ | refine blk_drew ?_ | refine blk_alloc ?_ _)); exact BK125.out⟩, ⟨by repeat (first | (with_reducible first | exact HB.out | apply below_alloc | apply pw_below_drewN | apply below_drew1 | refine below_set ?_ GE125.out) | exact HB.out)⟩⟩
  case rest =>
    clear HC3
    try clear p2
    try clear c5
    try clear c5b0
    try clear c6
    try clear c6b0
    try clear c6b1
    try clear hcz7_0
    try clear hcz7_1
    try clear hcz7_2
    try clear hcz7_3
    try clear hcz7_4
    try clear hcz7_5
    try clear hcz7_6
    try clear hcz8_0
    try clear hcz8_1
    try clear hcz8_2
    try clear hcz8_3
    try clear hcz8_4
    try clear hcz8_5
    try clear hcz8_6
    try clear hfz7_0
    try clear hfz7_1
    try clear hfz7_2
    try clear hfz7_3
    try clear hfz7_4
    try clear hfz7_5
    try clear hfz7_6
    try clear hfz8_0
    try clear hfz8_1
    try clear hfz8_2
    try clear hfz8_3
    try clear hfz8_4
    try clear hfz8_5
    try clear hfz8_6
    obtain ⟨kq, x20_2, rfl, HA, HJ2, BK125, HB⟩ := hcut
    cases kq with
    | zero => exact absurd HA.out (by simp [palingslaw03_Few.j0])
    | succ kj2 =>
      have H := HA.out
      clear HA
      simp only [palingslaw03_Few.j0] at H
      by_cases c9 : x20_2 = true
      · subst c9
        have H1 : (some false) = some r := by rw [if_pos rfl] at H; exact H
        clear H
        have H := H1
        clear H1
        obtain rfl := Option.some.inj H
        go_wp2
        go_ret
        exact ⟨by first | rfl | (simp [errW_none, errW_some] <;> rfl) | (simp [*, errW_none, errW_some] <;> rfl), by repeat (first | (with_reducible first | exact HB.out | apply below_alloc | apply pw_below_drewN | apply below_drew1 | refine below_set ?_ GE125.out) | exact HB.out)⟩
      · replace c9 := Bool.eq_false_iff.mpr c9
        subst c9
        have H1 : (palingslaw03_Few.l0 kj2 a1 l0_6 (l0_6.length : Int) 0) = some r := by rw [if_neg (show ¬ (false = true) by decide)] at H; exact H
        clear H
        have H := H1
        clear H1
        have H' := Aside0.mk H
        clear H
        have hcz10_0 : wc.cell? ⟨gb125, 0, none⟩ = some (.int .i64 a0_0) := (blk_cell BK125.out 0).trans rfl
        have hcz10_1 : wc.cell? ⟨gb125, 1, none⟩ = some (.int .i64 a0_1) := (blk_cell BK125.out 1).trans rfl
        have hcz10_2 : wc.cell? ⟨gb125, 2, none⟩ = some (.int .i64 a0_2) := (blk_cell BK125.out 2).trans rfl
        have hcz10_3 : wc.cell? ⟨gb125, 3, none⟩ = some (.int .i64 a0_3) := (blk_cell BK125.out 3).trans rfl
        have hcz10_4 : wc.cell? ⟨gb125, 4, none⟩ = some (.string a0_4) := (blk_cell BK125.out 4).trans rfl
        have hcz10_5 : wc.cell? ⟨gb125, 5, none⟩ = some (.int .i64 a0_5) := (blk_cell BK125.out 5).trans rfl
        have hcz10_6 : wc.cell? ⟨gb125, 6, none⟩ = some (.slice A0_6 l0_6.length c0_6) := (blk_cell BK125.out 6).trans rfl
        have hfz10_0 := blk_frozen BK125.out 0
        have hfz10_1 := blk_frozen BK125.out 1
        have hfz10_2 := blk_frozen BK125.out 2
        have hfz10_3 := blk_frozen BK125.out 3
        have hfz10_4 := blk_frozen BK125.out 4
        have hfz10_5 := blk_frozen BK125.out 5
        have hfz10_6 := blk_frozen BK125.out 6
        go_wp2
        go_loopg [24] kj2 (fun kq v24 w' => ∃ (x24_2 : Int), v24 = .int .i64 x24_2 ∧ Aside0 (palingslaw03_Few.l0 kq a1 l0_6 (l0_6.length : Int) x24_2 = some r) ∧ Aside0 (kq ≤ kj2) ∧ Aside0 (w'.heap[gb125]? = some (.cells #[.int .i64 a0_0, .int .i64 a0_1, .int .i64 a0_2, .int .i64 a0_3, .string a0_4, .int .i64 a0_5, (.slice A0_6 l0_6.length c0_6)] 31 (0, 0))) ∧ Aside0 (Below w.heap.size w w'))
        case atStart => exact ⟨(0), (by first | rfl | (simp; done) | (simp [*]; done)), H', ⟨Nat.le_refl _⟩, ⟨by (with_reducible repeat (first | refine blk_drewN ?_ _ | refine blk_drew ?_ | refine blk_alloc ?_ _)); exact BK125.out⟩, ⟨by repeat (first | (with_reducible first | exact HB.out | apply below_alloc | apply pw_below_drewN | apply below_drew1 | refine below_set ?_ GE125.out) | exact HB.out)⟩⟩
        case round =>
          clear H'
          try clear p2
          try clear c5
          try clear c5b0
          try clear c6
          try clear c6b0
          try clear c6b1
          try clear c9
          try clear hcz10_0
          try clear hcz10_1
          try clear hcz10_2
          try clear hcz10_3
          try clear hcz10_4
          try clear hcz10_5
          try clear hcz10_6
          try clear hcz7_0
          try clear hcz7_1
          try clear hcz7_2
          try clear hcz7_3
          try clear hcz7_4
          try clear hcz7_5
          try clear hcz7_6
          try clear hcz8_0
          try clear hcz8_1
          try clear hcz8_2
          try clear hcz8_3
          try clear hcz8_4
          try clear hcz8_5
          try clear hcz8_6
          try clear hfz10_0
          try clear hfz10_1
          try clear hfz10_2
          try clear hfz10_3
          try clear hfz10_4
          try clear hfz10_5
          try clear hfz10_6
          try clear hfz7_0
          try clear hfz7_1
          try clear hfz7_2
          try clear hfz7_3
          try clear hfz7_4
          try clear hfz7_5
          try clear hfz7_6
          try clear hfz8_0
          try clear hfz8_1
          try clear hfz8_2
          try clear hfz8_3
          try clear hfz8_4
          try clear hfz8_5
          try clear hfz8_6
          try clear p2
          obtain ⟨x24_2, rfl, HA, HK2, BK125, HB⟩ := hrel
          cases gk with
          | zero => exact absurd HA.out (by simp [palingslaw03_Few.l0])
          | succ k2 =>
            have H := HA.out
            clear HA
            simp only [palingslaw03_Few.l0] at H
            by_cases c11 : x24_2 < (l0_6.length : Int)
            · rw [if_pos c11] at H
              have c11b0 : decide (x24_2 < (l0_6.length : Int)) = true := decide_eq_true c11
              clear c11
              by_cases c12 : 0 ≤ x24_2
              · rw [if_pos c12] at H
                have c12b0 : decide (0 ≤ x24_2) = true := decide_eq_true c12
                clear c12
                by_cases c13 : x24_2 < (l0_6.length : Int)
                · rw [if_pos c13] at H
                  have c13b0 : decide (x24_2 < (l0_6.length : Int)) = true := decide_eq_true c13
                  clear c13
                  replace H := Option.bind_eq_some_iff.mp H
                  obtain ⟨t128, A140, H⟩ := H
                  replace H : (if t128 = true then (palingslaw03_Few.l0 k2 a1 l0_6 (l0_6.length : Int) (wrap64 (x24_2 + 1))) else (some false)) = some r := H
                  have A14 := Aside0.mk A140
                  clear A140
                  by_cases c15 : t128 = true
                  · subst c15
                    have H1 : (palingslaw03_Few.l0 k2 a1 l0_6 (l0_6.length : Int) (wrap64 (x24_2 + 1))) = some r := by rw [if_pos rfl] at H; exact H
                    clear H
                    have H := H1
                    clear H1
                    have H' := Aside0.mk H
                    clear H
                    have p126 : 0 ≤ (x24_2 : Int) := of_decide_eq_true (by first | (with_reducible assumption) | assumption)
                    have q126 : x24_2 < (l0_6.length : Int) := of_decide_eq_true (by first | (with_reducible assumption) | assumption)
                    obtain ⟨ad126, A126_6, c126_6, e126, hx126_0, hx126_1, hx126_2, hx126_3, hx126_4, hx126_5, hx126_6, hl126_6, hi126_6⟩ := at_T31 HR0_6.out x24_2 p126 q126
                    cases e126
                    replace hx126_0 := (HB.out.cell (World.block_lt_of_cell? w _ hx126_0)).trans hx126_0
                    replace hx126_1 := (HB.out.cell (World.block_lt_of_cell? w _ hx126_1)).trans hx126_1
                    replace hx126_2 := (HB.out.cell (World.block_lt_of_cell? w _ hx126_2)).trans hx126_2
                    replace hx126_3 := (HB.out.cell (World.block_lt_of_cell? w _ hx126_3)).trans hx126_3
                    replace hx126_4 := (HB.out.cell (World.block_lt_of_cell? w _ hx126_4)).trans hx126_4
                    replace hx126_5 := (HB.out.cell (World.block_lt_of_cell? w _ hx126_5)).trans hx126_5
                    replace hx126_6 := (HB.out.cell (World.block_lt_of_cell? w _ hx126_6)).trans hx126_6
                    have HR126_6 := Aside0.mk hi126_6
                    have HC126_6 := Aside0.mk hl126_6
                    clear hi126_6 hl126_6
                    replace p126 := eq_true p126
                    replace q126 := eq_true q126
                    go_wp2_with (first | ((with_reducible refine gate_dst (N := 6) rfl ?_); (try (refine gate_guard (by rfl) ?_; dsimp only)); refine box_event ?hg (N := 6) ?hd (cs := #[.int .i64 0, .int .i64 0, .int .i64 0, .int .i64 0, .string (⟨#[]⟩ : ByteArray), .int .i64 0, .slice none 0 0]) (t := 31) ?hr ?_; (case hd => rfl); (case hg => rfl); (case hr => first | (go_simp; done) | (go_simp; rfl)); intro gb127 hg w16 hbox hb; have n0_ := Aside0.mk (blk_below (g := gb125) (o := .cells #[.int .i64 a0_0, .int .i64 a0_1, .int .i64 a0_2, .int .i64 a0_3, .string a0_4, .int .i64 a0_5, .slice (some ad126) l0_6.length c0_6] 31 (0, 0)) (by (with_reducible repeat (first | refine blk_drewN ?_ _ | refine blk_drew ?_ | refine blk_alloc ?_ _)); exact BK125.out) hb); have n1_ := Aside0.mk (below_step (by repeat (first | (with_reducible first | exact HB.out | apply below_alloc | apply pw_below_drewN | apply below_drew1 | refine below_set ?_ GE125.out) | exact HB.out)) hb); have n2_ := Aside0.mk (hbox); have n3_ := Aside0.mk ((by rw [hg]; exact (below_size (by repeat (first | (with_reducible first | exact HB.out | apply below_alloc | apply pw_below_drewN | apply below_drew1 | refine below_set ?_ GE125.out) | exact HB.out))) : w.heap.size ≤ gb127)); have n4_ := Aside0.mk ((by rw [hg]; exact (below_size (by repeat (first | (with_reducible first | exact HB.out | apply below_alloc | apply pw_below_drewN | apply below_drew1 | refine below_set ?_ GE125.out) | exact HB.out))) : w.heap.size ≤ gb127)); have n5_ := Aside0.mk ((by rw [hg]; exact Nat.ne_of_lt (blk_lt (g := gb125) (o := .cells #[.int .i64 a0_0, .int .i64 a0_1, .int .i64 a0_2, .int .i64 a0_3, .string a0_4, .int .i64 a0_5, .slice (some ad126) l0_6.length c0_6] 31 (0, 0)) (by (with_reducible repeat (first | refine blk_drewN ?_ _ | refine blk_drew ?_ | refine blk_alloc ?_ _)); exact BK125.out)) : gb125 ≠ gb127)); have n6_ := Aside0.mk ((by rw [hg]; exact Nat.ne_of_gt (blk_lt (g := gb125) (o := .cells #[.int .i64 a0_0, .int .i64 a0_1, .int .i64 a0_2, .int .i64 a0_3, .string a0_4, .int .i64 a0_5, .slice (some ad126) l0_6.length c0_6] 31 (0, 0)) (by (with_reducible repeat (first | refine blk_drewN ?_ _ | refine blk_drew ?_ | refine blk_alloc ?_ _)); exact BK125.out)) : gb127 ≠ gb125)); clear BK125; clear HB; have BK125 := n0_; have HB := n1_; have BK127 := n2_; have GW127 := n3_; have GE127 := n4_; have NB125_127 := n5_; have NB127_125 := n6_; clear n0_ n1_ n2_ n3_ n4_ n5_ n6_; clear hb hbox hg; have hnb17 := NB127_125.out; have hnc17 := NB125_127.out; have hcz18_0 : w16.cell? ⟨gb127, 0, none⟩ = some (.int .i64 0) := (blk_cell BK127.out 0).trans rfl; have hcz18_1 : w16.cell? ⟨gb127, 1, none⟩ = some (.int .i64 0) := (blk_cell BK127.out 1).trans rfl; have hcz18_2 : w16.cell? ⟨gb127, 2, none⟩ = some (.int .i64 0) := (blk_cell BK127.out 2).trans rfl; have hcz18_3 : w16.cell? ⟨gb127, 3, none⟩ = some (.int .i64 0) := (blk_cell BK127.out 3).trans rfl; have hcz18_4 : w16.cell? ⟨gb127, 4, none⟩ = some (.string (⟨#[]⟩ : ByteArray)) := (blk_cell BK127.out 4).trans rfl; have hcz18_5 : w16.cell? ⟨gb127, 5, none⟩ = some (.int .i64 0) := (blk_cell BK127.out 5).trans rfl; have hcz18_6 : w16.cell? ⟨gb127, 6, none⟩ = some (.slice none 0 0) := (blk_cell BK127.out 6).trans rfl; have hfz18_0 := blk_frozen BK127.out 0; have hfz18_1 := blk_frozen BK127.out 1; have hfz18_2 := blk_frozen BK127.out 2; have hfz18_3 := blk_frozen BK127.out 3; have hfz18_4 := blk_frozen BK127.out 4; have hfz18_5 := blk_frozen BK127.out 5; have hfz18_6 := blk_frozen BK127.out 6) | ((with_reducible refine gate_callee (f := 9) rfl ?_); refine goesL_ (some 31) rfl rfl Tryd.func9 (by kernel_rfl) rfl #[.agg #[.int .i64 ((rd_T31 l0_6 x24_2).f0), .int .i64 ((rd_T31 l0_6 x24_2).f1.f0), .int .i64 ((rd_T31 l0_6 x24_2).f1.f1), .int .i64 ((rd_T31 l0_6 x24_2).f2), .string ((rd_T31 l0_6 x24_2).f3), .int .i64 ((rd_T31 l0_6 x24_2).f4), .slice A126_6 ((rd_T31 l0_6 x24_2).f5).length c126_6], .int .i64 (wrap64 (a1 + 1))] rfl (by (try simp only [List.map_toArray, List.map_cons, List.map_nil]); first | done | rfl | (simp only [List.length_drop, List.length_take]; rfl)) ?_; (with_reducible refine (ih k2 (by have := HJ2.out; have := HK2.out; omega) ((rd_T31 l0_6 x24_2).f0) ((rd_T31 l0_6 x24_2).f1.f0) ((rd_T31 l0_6 x24_2).f1.f1) ((rd_T31 l0_6 x24_2).f2) ((rd_T31 l0_6 x24_2).f3) ((rd_T31 l0_6 x24_2).f4) _ _ ((rd_T31 l0_6 x24_2).f5) (wrap64 (a1 + 1)) true _ ?side1 ?side2 A14.out).mono ?_); (case side1 => exact Kd.C_below HR126_6.out (by repeat (first | (with_reducible first | exact HB.out | apply below_alloc | apply pw_below_drewN | apply below_drew1 | refine below_set ?_ GE125.out | refine below_set ?_ GE127.out) | exact HB.out))); (case side2 => exact HC126_6.out); rintro e w19 ⟨rfl, hb⟩; refine ⟨_, rfl, ?_⟩; have n0_ := Aside0.mk (blk_below (g := gb125) (o := .cells #[.int .i64 a0_0, .int .i64 a0_1, .int .i64 a0_2, .int .i64 a0_3, .string a0_4, .int .i64 a0_5, .slice (some ad126) l0_6.length c0_6] 31 (0, 0)) (by (with_reducible repeat (first | refine blk_drewN ?_ _ | refine blk_drew ?_ | refine blk_alloc ?_ _)); refine blk_far ?_ NB125_127.out _; (with_reducible repeat (first | refine blk_drewN ?_ _ | refine blk_drew ?_ | refine blk_alloc ?_ _)); refine blk_far ?_ NB125_127.out _; (with_reducible repeat (first | refine blk_drewN ?_ _ | refine blk_drew ?_ | refine blk_alloc ?_ _)); refine blk_far ?_ NB125_127.out _; (with_reducible repeat (first | refine blk_drewN ?_ _ | refine blk_drew ?_ | refine blk_alloc ?_ _)); refine blk_far ?_ NB125_127.out _; (with_reducible repeat (first | refine blk_drewN ?_ _ | refine blk_drew ?_ | refine blk_alloc ?_ _)); refine blk_far ?_ NB125_127.out _; (with_reducible repeat (first | refine blk_drewN ?_ _ | refine blk_drew ?_ | refine blk_alloc ?_ _)); refine blk_far ?_ NB125_127.out _; (with_reducible repeat (first | refine blk_drewN ?_ _ | refine blk_drew ?_ | refine blk_alloc ?_ _)); refine blk_far ?_ NB125_127.out _; (with_reducible repeat (first | refine blk_drewN ?_ _ | refine blk_drew ?_ | refine blk_alloc ?_ _)); exact BK125.out) hb); have n1_ := Aside0.mk (blk_below (g := gb127) (o := .cells #[.int .i64 ((rd_T31 l0_6 x24_2).f0), .int .i64 ((rd_T31 l0_6 x24_2).f1.f0), .int .i64 ((rd_T31 l0_6 x24_2).f1.f1), .int .i64 ((rd_T31 l0_6 x24_2).f2), .string ((rd_T31 l0_6 x24_2).f3), .int .i64 ((rd_T31 l0_6 x24_2).f4), .slice A126_6 ((rd_T31 l0_6 x24_2).f5).length c126_6] 31 (0, 0)) (by (with_reducible repeat (first | refine blk_drewN ?_ _ | refine blk_drew ?_ | refine blk_alloc ?_ _)); refine blk_put (cs := #[.int .i64 ((rd_T31 l0_6 x24_2).f0), .int .i64 ((rd_T31 l0_6 x24_2).f1.f0), .int .i64 ((rd_T31 l0_6 x24_2).f1.f1), .int .i64 ((rd_T31 l0_6 x24_2).f2), .string ((rd_T31 l0_6 x24_2).f3), .int .i64 ((rd_T31 l0_6 x24_2).f4), .slice none 0 0]) ?_ 6 _ rfl; (with_reducible repeat (first | refine blk_drewN ?_ _ | refine blk_drew ?_ | refine blk_alloc ?_ _)); refine blk_put (cs := #[.int .i64 ((rd_T31 l0_6 x24_2).f0), .int .i64 ((rd_T31 l0_6 x24_2).f1.f0), .int .i64 ((rd_T31 l0_6 x24_2).f1.f1), .int .i64 ((rd_T31 l0_6 x24_2).f2), .string ((rd_T31 l0_6 x24_2).f3), .int .i64 0, .slice none 0 0]) ?_ 5 _ rfl; (with_reducible repeat (first | refine blk_drewN ?_ _ | refine blk_drew ?_ | refine blk_alloc ?_ _)); refine blk_put (cs := #[.int .i64 ((rd_T31 l0_6 x24_2).f0), .int .i64 ((rd_T31 l0_6 x24_2).f1.f0), .int .i64 ((rd_T31 l0_6 x24_2).f1.f1), .int .i64 ((rd_T31 l0_6 x24_2).f2), .string (⟨#[]⟩ : ByteArray), .int .i64 0, .slice none 0 0]) ?_ 4 _ rfl; (with_reducible repeat (first | refine blk_drewN ?_ _ | refine blk_drew ?_ | refine blk_alloc ?_ _)); refine blk_put (cs := #[.int .i64 ((rd_T31 l0_6 x24_2).f0), .int .i64 ((rd_T31 l0_6 x24_2).f1.f0), .int .i64 ((rd_T31 l0_6 x24_2).f1.f1), .int .i64 0, .string (⟨#[]⟩ : ByteArray), .int .i64 0, .slice none 0 0]) ?_ 3 _ rfl; (with_reducible repeat (first | refine blk_drewN ?_ _ | refine blk_drew ?_ | refine blk_alloc ?_ _)); refine blk_put (cs := #[.int .i64 ((rd_T31 l0_6 x24_2).f0), .int .i64 ((rd_T31 l0_6 x24_2).f1.f0), .int .i64 0, .int .i64 0, .string (⟨#[]⟩ : ByteArray), .int .i64 0, .slice none 0 0]) ?_ 2 _ rfl; (with_reducible repeat (first | refine blk_drewN ?_ _ | refine blk_drew ?_ | refine blk_alloc ?_ _)); refine blk_put (cs := #[.int .i64 ((rd_T31 l0_6 x24_2).f0), .int .i64 0, .int .i64 0, .int .i64 0, .string (⟨#[]⟩ : ByteArray), .int .i64 0, .slice none 0 0]) ?_ 1 _ rfl; (with_reducible repeat (first | refine blk_drewN ?_ _ | refine blk_drew ?_ | refine blk_alloc ?_ _)); refine blk_put (cs := #[.int .i64 0, .int .i64 0, .int .i64 0, .int .i64 0, .string (⟨#[]⟩ : ByteArray), .int .i64 0, .slice none 0 0]) ?_ 0 _ rfl; (with_reducible repeat (first | refine blk_drewN ?_ _ | refine blk_drew ?_ | refine blk_alloc ?_ _)); exact BK127.out) hb); have n2_ := Aside0.mk (below_step (by repeat (first | (with_reducible first | exact HB.out | apply below_alloc | apply pw_below_drewN | apply below_drew1 | refine below_set ?_ GE125.out | refine below_set ?_ GE127.out) | exact HB.out)) hb); clear BK125; clear BK127; clear HB; have BK125 := n0_; have BK127 := n1_; have HB := n2_; clear n0_ n1_ n2_; (try clear hb); (try clear hb2); (try clear hk); (try clear hi)))
                    go_roundg k2
                    case measure => have := HJ2.out; have := HK2.out; omega
                    case rel => exact ⟨(wrap64 (x24_2 + 1)), (by first | rfl | (simp; done) | (simp [*]; done)), H', ⟨by have := HJ2.out; have := HK2.out; omega⟩, ⟨by (with_reducible repeat (first | refine blk_drewN ?_ _ | refine blk_drew ?_ | refine blk_alloc ?_ _)); exact BK125.out⟩, ⟨by repeat (first | (with_reducible first | exact HB.out | apply below_alloc | apply pw_below_drewN | apply below_drew1 | refine below_set ?_ GE125.out | refine below_set ?_ GE127.out) | exact HB.out)⟩⟩
                  · replace c15 := Bool.eq_false_iff.mpr c15
                    subst c15
                    have H1 : (some false) = some r := by rw [if_neg (show ¬ (false = true) by decide)] at H; exact H
                    clear H
                    have H := H1
                    clear H1
                    obtain rfl := Option.some.inj H
                    have p126 : 0 ≤ (x24_2 : Int) := of_decide_eq_true (by first | (with_reducible assumption) | assumption)
                    have q126 : x24_2 < (l0_6.length : Int) := of_decide_eq_true (by first | (with_reducible assumption) | assumption)
                    obtain ⟨ad126, A126_6, c126_6, e126, hx126_0, hx126_1, hx126_2, hx126_3, hx126_4, hx126_5, hx126_6, hl126_6, hi126_6⟩ := at_T31 HR0_6.out x24_2 p126 q126
                    cases e126
                    replace hx126_0 := (HB.out.cell (World.block_lt_of_cell? w _ hx126_0)).trans hx126_0
                    replace hx126_1 := (HB.out.cell (World.block_lt_of_cell? w _ hx126_1)).trans hx126_1
                    replace hx126_2 := (HB.out.cell (World.block_lt_of_cell? w _ hx126_2)).trans hx126_2
                    replace hx126_3 := (HB.out.cell (World.block_lt_of_cell? w _ hx126_3)).trans hx126_3
                    replace hx126_4 := (HB.out.cell (World.block_lt_of_cell? w _ hx126_4)).trans hx126_4
                    replace hx126_5 := (HB.out.cell (World.block_lt_of_cell? w _ hx126_5)).trans hx126_5
                    replace hx126_6 := (HB.out.cell (World.block_lt_of_cell? w _ hx126_6)).trans hx126_6
                    have HR126_6 := Aside0.mk hi126_6
                    have HC126_6 := Aside0.mk hl126_6
                    clear hi126_6 hl126_6
                    replace p126 := eq_true p126
                    replace q126 := eq_true q126
                    go_wp2_with (first | ((with_reducible refine gate_dst (N := 6) rfl ?_); (try (refine gate_guard (by rfl) ?_; dsimp only)); refine box_event ?hg (N := 6) ?hd (cs := #[.int .i64 0, .int .i64 0, .int .i64 0, .int .i64 0, .string (⟨#[]⟩ : ByteArray), .int .i64 0, .slice none 0 0]) (t := 31) ?hr ?_; (case hd => rfl); (case hg => rfl); (case hr => first | (go_simp; done) | (go_simp; rfl)); intro gb127 hg w20 hbox hb; have n0_ := Aside0.mk (blk_below (g := gb125) (o := .cells #[.int .i64 a0_0, .int .i64 a0_1, .int .i64 a0_2, .int .i64 a0_3, .string a0_4, .int .i64 a0_5, .slice (some ad126) l0_6.length c0_6] 31 (0, 0)) (by (with_reducible repeat (first | refine blk_drewN ?_ _ | refine blk_drew ?_ | refine blk_alloc ?_ _)); exact BK125.out) hb); have n1_ := Aside0.mk (below_step (by repeat (first | (with_reducible first | exact HB.out | apply below_alloc | apply pw_below_drewN | apply below_drew1 | refine below_set ?_ GE125.out) | exact HB.out)) hb); have n2_ := Aside0.mk (hbox); have n3_ := Aside0.mk ((by rw [hg]; exact (below_size (by repeat (first | (with_reducible first | exact HB.out | apply below_alloc | apply pw_below_drewN | apply below_drew1 | refine below_set ?_ GE125.out) | exact HB.out))) : w.heap.size ≤ gb127)); have n4_ := Aside0.mk ((by rw [hg]; exact (below_size (by repeat (first | (with_reducible first | exact HB.out | apply below_alloc | apply pw_below_drewN | apply below_drew1 | refine below_set ?_ GE125.out) | exact HB.out))) : w.heap.size ≤ gb127)); have n5_ := Aside0.mk ((by rw [hg]; exact Nat.ne_of_lt (blk_lt (g := gb125) (o := .cells #[.int .i64 a0_0, .int .i64 a0_1, .int .i64 a0_2, .int .i64 a0_3, .string a0_4, .int .i64 a0_5, .slice (some ad126) l0_6.length c0_6] 31 (0, 0)) (by (with_reducible repeat (first | refine blk_drewN ?_ _ | refine blk_drew ?_ | refine blk_alloc ?_ _)); exact BK125.out)) : gb125 ≠ gb127)); have n6_ := Aside0.mk ((by rw [hg]; exact Nat.ne_of_gt (blk_lt (g := gb125) (o := .cells #[.int .i64 a0_0, .int .i64 a0_1, .int .i64 a0_2, .int .i64 a0_3, .string a0_4, .int .i64 a0_5, .slice (some ad126) l0_6.length c0_6] 31 (0, 0)) (by (with_reducible repeat (first | refine blk_drewN ?_ _ | refine blk_drew ?_ | refine blk_alloc ?_ _)); exact BK125.out)) : gb127 ≠ gb125)); clear BK125; clear HB; have BK125 := n0_; have HB := n1_; have BK127 := n2_; have GW127 := n3_; have GE127 := n4_; have NB125_127 := n5_; have NB127_125 := n6_; clear n0_ n1_ n2_ n3_ n4_ n5_ n6_; clear hb hbox hg; have hnb21 := NB127_125.out; have hnc21 := NB125_127.out; have hcz22_0 : w20.cell? ⟨gb127, 0, none⟩ = some (.int .i64 0) := (blk_cell BK127.out 0).trans rfl; have hcz22_1 : w20.cell? ⟨gb127, 1, none⟩ = some (.int .i64 0) := (blk_cell BK127.out 1).trans rfl; have hcz22_2 : w20.cell? ⟨gb127, 2, none⟩ = some (.int .i64 0) := (blk_cell BK127.out 2).trans rfl; have hcz22_3 : w20.cell? ⟨gb127, 3, none⟩ = some (.int .i64 0) := (blk_cell BK127.out 3).trans rfl; have hcz22_4 : w20.cell? ⟨gb127, 4, none⟩ = some (.string (⟨#[]⟩ : ByteArray)) := (blk_cell BK127.out 4).trans rfl; have hcz22_5 : w20.cell? ⟨gb127, 5, none⟩ = some (.int .i64 0) := (blk_cell BK127.out 5).trans rfl; have hcz22_6 : w20.cell? ⟨gb127, 6, none⟩ = some (.slice none 0 0) := (blk_cell BK127.out 6).trans rfl; have hfz22_0 := blk_frozen BK127.out 0; have hfz22_1 := blk_frozen BK127.out 1; have hfz22_2 := blk_frozen BK127.out 2; have hfz22_3 := blk_frozen BK127.out 3; have hfz22_4 := blk_frozen BK127.out 4; have hfz22_5 := blk_frozen BK127.out 5; have hfz22_6 := blk_frozen BK127.out 6) | ((with_reducible refine gate_callee (f := 9) rfl ?_); refine goesL_ (some 31) rfl rfl Tryd.func9 (by kernel_rfl) rfl #[.agg #[.int .i64 ((rd_T31 l0_6 x24_2).f0), .int .i64 ((rd_T31 l0_6 x24_2).f1.f0), .int .i64 ((rd_T31 l0_6 x24_2).f1.f1), .int .i64 ((rd_T31 l0_6 x24_2).f2), .string ((rd_T31 l0_6 x24_2).f3), .int .i64 ((rd_T31 l0_6 x24_2).f4), .slice A126_6 ((rd_T31 l0_6 x24_2).f5).length c126_6], .int .i64 (wrap64 (a1 + 1))] rfl (by (try simp only [List.map_toArray, List.map_cons, List.map_nil]); first | done | rfl | (simp only [List.length_drop, List.length_take]; rfl)) ?_; (with_reducible refine (ih k2 (by have := HJ2.out; have := HK2.out; omega) ((rd_T31 l0_6 x24_2).f0) ((rd_T31 l0_6 x24_2).f1.f0) ((rd_T31 l0_6 x24_2).f1.f1) ((rd_T31 l0_6 x24_2).f2) ((rd_T31 l0_6 x24_2).f3) ((rd_T31 l0_6 x24_2).f4) _ _ ((rd_T31 l0_6 x24_2).f5) (wrap64 (a1 + 1)) false _ ?side1 ?side2 A14.out).mono ?_); (case side1 => exact Kd.C_below HR126_6.out (by repeat (first | (with_reducible first | exact HB.out | apply below_alloc | apply pw_below_drewN | apply below_drew1 | refine below_set ?_ GE125.out | refine below_set ?_ GE127.out) | exact HB.out))); (case side2 => exact HC126_6.out); rintro e w23 ⟨rfl, hb⟩; refine ⟨_, rfl, ?_⟩; have n0_ := Aside0.mk (blk_below (g := gb125) (o := .cells #[.int .i64 a0_0, .int .i64 a0_1, .int .i64 a0_2, .int .i64 a0_3, .string a0_4, .int .i64 a0_5, .slice (some ad126) l0_6.length c0_6] 31 (0, 0)) (by (with_reducible repeat (first | refine blk_drewN ?_ _ | refine blk_drew ?_ | refine blk_alloc ?_ _)); refine blk_far ?_ NB125_127.out _; (with_reducible repeat (first | refine blk_drewN ?_ _ | refine blk_drew ?_ | refine blk_alloc ?_ _)); refine blk_far ?_ NB125_127.out _; (with_reducible repeat (first | refine blk_drewN ?_ _ | refine blk_drew ?_ | refine blk_alloc ?_ _)); refine blk_far ?_ NB125_127.out _; (with_reducible repeat (first | refine blk_drewN ?_ _ | refine blk_drew ?_ | refine blk_alloc ?_ _)); refine blk_far ?_ NB125_127.out _; (with_reducible repeat (first | refine blk_drewN ?_ _ | refine blk_drew ?_ | refine blk_alloc ?_ _)); refine blk_far ?_ NB125_127.out _; (with_reducible repeat (first | refine blk_drewN ?_ _ | refine blk_drew ?_ | refine blk_alloc ?_ _)); refine blk_far ?_ NB125_127.out _; (with_reducible repeat (first | refine blk_drewN ?_ _ | refine blk_drew ?_ | refine blk_alloc ?_ _)); refine blk_far ?_ NB125_127.out _; (with_reducible repeat (first | refine blk_drewN ?_ _ | refine blk_drew ?_ | refine blk_alloc ?_ _)); exact BK125.out) hb); have n1_ := Aside0.mk (blk_below (g := gb127) (o := .cells #[.int .i64 ((rd_T31 l0_6 x24_2).f0), .int .i64 ((rd_T31 l0_6 x24_2).f1.f0), .int .i64 ((rd_T31 l0_6 x24_2).f1.f1), .int .i64 ((rd_T31 l0_6 x24_2).f2), .string ((rd_T31 l0_6 x24_2).f3), .int .i64 ((rd_T31 l0_6 x24_2).f4), .slice A126_6 ((rd_T31 l0_6 x24_2).f5).length c126_6] 31 (0, 0)) (by (with_reducible repeat (first | refine blk_drewN ?_ _ | refine blk_drew ?_ | refine blk_alloc ?_ _)); refine blk_put (cs := #[.int .i64 ((rd_T31 l0_6 x24_2).f0), .int .i64 ((rd_T31 l0_6 x24_2).f1.f0), .int .i64 ((rd_T31 l0_6 x24_2).f1.f1), .int .i64 ((rd_T31 l0_6 x24_2).f2), .string ((rd_T31 l0_6 x24_2).f3), .int .i64 ((rd_T31 l0_6 x24_2).f4), .slice none 0 0]) ?_ 6 _ rfl; (with_reducible repeat (first | refine blk_drewN ?_ _ | refine blk_drew ?_ | refine blk_alloc ?_ _)); refine blk_put (cs := #[.int .i64 ((rd_T31 l0_6 x24_2).f0), .int .i64 ((rd_T31 l0_6 x24_2).f1.f0), .int .i64 ((rd_T31 l0_6 x24_2).f1.f1), .int .i64 ((rd_T31 l0_6 x24_2).f2), .string ((rd_T31 l0_6 x24_2).f3), .int .i64 0, .slice none 0 0]) ?_ 5 _ rfl; (with_reducible repeat (first | refine blk_drewN ?_ _ | refine blk_drew ?_ | refine blk_alloc ?_ _)); refine blk_put (cs := #[.int .i64 ((rd_T31 l0_6 x24_2).f0), .int .i64 ((rd_T31 l0_6 x24_2).f1.f0), .int .i64 ((rd_T31 l0_6 x24_2).f1.f1), .int .i64 ((rd_T31 l0_6 x24_2).f2), .string (⟨#[]⟩ : ByteArray), .int .i64 0, .slice none 0 0]) ?_ 4 _ rfl; (with_reducible repeat (first | refine blk_drewN ?_ _ | refine blk_drew ?_ | refine blk_alloc ?_ _)); refine blk_put (cs := #[.int .i64 ((rd_T31 l0_6 x24_2).f0), .int .i64 ((rd_T31 l0_6 x24_2).f1.f0), .int .i64 ((rd_T31 l0_6 x24_2).f1.f1), .int .i64 0, .string (⟨#[]⟩ : ByteArray), .int .i64 0, .slice none 0 0]) ?_ 3 _ rfl; (with_reducible repeat (first | refine blk_drewN ?_ _ | refine blk_drew ?_ | refine blk_alloc ?_ _)); refine blk_put (cs := #[.int .i64 ((rd_T31 l0_6 x24_2).f0), .int .i64 ((rd_T31 l0_6 x24_2).f1.f0), .int .i64 0, .int .i64 0, .string (⟨#[]⟩ : ByteArray), .int .i64 0, .slice none 0 0]) ?_ 2 _ rfl; (with_reducible repeat (first | refine blk_drewN ?_ _ | refine blk_drew ?_ | refine blk_alloc ?_ _)); refine blk_put (cs := #[.int .i64 ((rd_T31 l0_6 x24_2).f0), .int .i64 0, .int .i64 0, .int .i64 0, .string (⟨#[]⟩ : ByteArray), .int .i64 0, .slice none 0 0]) ?_ 1 _ rfl; (with_reducible repeat (first | refine blk_drewN ?_ _ | refine blk_drew ?_ | refine blk_alloc ?_ _)); refine blk_put (cs := #[.int .i64 0, .int .i64 0, .int .i64 0, .int .i64 0, .string (⟨#[]⟩ : ByteArray), .int .i64 0, .slice none 0 0]) ?_ 0 _ rfl; (with_reducible repeat (first | refine blk_drewN ?_ _ | refine blk_drew ?_ | refine blk_alloc ?_ _)); exact BK127.out) hb); have n2_ := Aside0.mk (below_step (by repeat (first | (with_reducible first | exact HB.out | apply below_alloc | apply pw_below_drewN | apply below_drew1 | refine below_set ?_ GE125.out | refine below_set ?_ GE127.out) | exact HB.out)) hb); clear BK125; clear BK127; clear HB; have BK125 := n0_; have BK127 := n1_; have HB := n2_; clear n0_ n1_ n2_; (try clear hb); (try clear hb2); (try clear hk); (try clear hi)))
                    go_ret
                    exact ⟨by first | rfl | (simp [errW_none, errW_some] <;> rfl) | (simp [*, errW_none, errW_some] <;> rfl), by repeat (first | (with_reducible first | exact HB.out | apply below_alloc | apply pw_below_drewN | apply below_drew1 | refine below_set ?_ GE125.out | refine below_set ?_ GE127.out) | exact HB.out)⟩
                · rw [if_neg c13] at H
                  exact absurd H (by simp)
              · rw [if_neg c12] at H
                exact absurd H (by simp)
            · rw [if_neg c11] at H
              have c11b0 : decide (x24_2 < (l0_6.length : Int)) = false := decide_eq_false c11
              clear c11
              obtain rfl := Option.some.inj H
              go_wp2
              go_ret
              exact ⟨by first | rfl | (simp [errW_none, errW_some] <;> rfl) | (simp [*, errW_none, errW_some] <;> rfl), by repeat (first | (with_reducible first | exact HB.out | apply below_alloc | apply pw_below_drewN | apply below_drew1 | refine below_set ?_ GE125.out) | exact HB.out)⟩


end Go.Proofs.YtaammdmaldodaaaDoor.B
