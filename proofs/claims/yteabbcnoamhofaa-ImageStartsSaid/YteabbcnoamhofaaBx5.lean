/- Out of the kit's print of this seat's functions, put together by a program of mine. -/
import Derived.Test.YteabbcnoamhofaaBx1
import Derived.Test.YteabbcnoamhofaaBx2
import Derived.Test.YteabbcnoamhofaaBx3
import Derived.Test.YteabbcnoamhofaaBx4
import Derived.Test.YteabbcnoamhofaaPutLit
import Derived.Lib.SmallJoins
namespace Go.Proofs.Yteabbcnoamhofaa.B
open Go.RowKit Go.Proofs.YteabbcnoamhofaaW.PrintWords Go.Proofs.YteabbcnoamhofaaW.PrintLast Go.Proofs.YteabbcnoamhofaaW.PrintMore
attribute [local go_sem] max2_int min2_int max_two min_two max_three min_three max_four min_four   -- for this text's walks alone
set_option linter.unusedVariables false
set_option linter.unusedSimpArgs false

/-! ### image_Encode: function 16 -/
mutual
def image_Encode.l0 : Nat → List Int → List (S33) → Int → Int → List (S26) → List (S33) → Int → Int → Option (List Int × Int)
  | 0, _, _, _, _, _, _, _, _ => none
  | k + 1, x4, x28, x29, x30, x133000, x133001, x133002, x133003 => if x30 < x29 then (if 0 ≤ x30 then (if x30 < (x28.length : Int) then ((image_put.f x4 ((rd_T33 x28 x30).f1)).bind fun t148 => ((image_put.f t148 ((rd_T33 x28 x30).f2)).bind fun t151 => (image_Encode.l0 k t151 x28 x29 (wrap64 (x30 + 1)) x133000 x133001 x133002 x133003))) else (none)) else (none)) else ((image_put.f x4 (x133000.length : Int)).bind fun t154 => (image_Encode.l1 k t154 x133000 (x133000.length : Int) 0))
def image_Encode.l1 : Nat → List Int → List (S26) → Int → Int → Option (List Int × Int)
  | 0, _, _, _, _ => none
  | k + 1, x4, x48, x49, x50 => if x50 < x49 then (if 0 ≤ x50 then (if x50 < (x48.length : Int) then ((code_Encode.f k ((rd_T26 x48 x50).f0) ((rd_T26 x48 x50).f1) ((rd_T26 x48 x50).f2) ((rd_T26 x48 x50).f3) ((rd_T26 x48 x50).f4) ((rd_T26 x48 x50).f5)).bind fun bt159 => (if bt159.2 = 0 then (if x4.length + bt159.1.length < 140737488355328 then (image_Encode.l1 k (x4 ++ bt159.1) x48 x49 (wrap64 (x50 + 1))) else (none)) else (some (([] : List Int), bt159.2)))) else (none)) else (none)) else (some (x4, 0))
end
def image_Encode.f (k : Nat) (l0_0 : List (S26)) (l0_1 : List (S33)) (a0_2 : Int) (a0_3 : Int) : Option (List Int × Int) := (image_Image_Right.f k l0_0 l0_1 a0_2 a0_3).bind fun t133 => (if t133 = true then ((image_put.f (([112, 97, 108, 49] : List Int)) a0_3).bind fun t137 => ((image_put.f t137 a0_2).bind fun t140 => ((image_put.f t140 (l0_1.length : Int)).bind fun t143 => (image_Encode.l0 k t143 l0_1 (l0_1.length : Int) 0 l0_0 l0_1 a0_2 a0_3)))) else (some (([] : List Int), 1)))
theorem image_Encode.mono_l : ∀ k, (∀ y0 y1 y2 y3 y4 y5 y6 y7, LeO (image_Encode.l0 k y0 y1 y2 y3 y4 y5 y6 y7) (image_Encode.l0 (k + 1) y0 y1 y2 y3 y4 y5 y6 y7)) ∧ (∀ y0 y1 y2 y3, LeO (image_Encode.l1 k y0 y1 y2 y3) (image_Encode.l1 (k + 1) y0 y1 y2 y3))
  | 0 => ⟨fun _ _ _ _ _ _ _ _ r h => by simp [image_Encode.l0] at h, fun _ _ _ _ r h => by simp [image_Encode.l1] at h⟩
  | k + 1 => by
    obtain ⟨ih0, ih1⟩ := image_Encode.mono_l k
    refine ⟨?_, ?_⟩
    · intro y0 y1 y2 y3 y4 y5 y6 y7
      unfold image_Encode.l0
      repeat' first
      | (with_reducible exact ih0 _ _ _ _ _ _ _ _)
      | (with_reducible exact ih1 _ _ _ _)
      | (with_reducible exact code_Encode.mono _ _ _ _ _ _ _)
      | (with_reducible exact image_Image_Right.mono _ _ _ _ _)
      | (with_reducible exact LeO.refl _)
      | (with_reducible exact LeO.none _)
      | (with_reducible refine LeO.ite ?_ ?_)
      | (with_reducible refine LeO.bind ?_ (fun _ => ?_))
      | exact ih0 _ _ _ _ _ _ _ _
      | exact ih1 _ _ _ _
      | exact code_Encode.mono _ _ _ _ _ _ _
      | exact image_Image_Right.mono _ _ _ _ _
      | exact LeO.none _
      | refine LeO.ite ?_ ?_
      | refine LeO.bind ?_ (fun _ => ?_)
    · intro y0 y1 y2 y3
      unfold image_Encode.l1
      repeat' first
      | (with_reducible exact ih0 _ _ _ _ _ _ _ _)
      | (with_reducible exact ih1 _ _ _ _)
      | (with_reducible exact code_Encode.mono _ _ _ _ _ _ _)
      | (with_reducible exact image_Image_Right.mono _ _ _ _ _)
      | (with_reducible exact LeO.refl _)
      | (with_reducible exact LeO.none _)
      | (with_reducible refine LeO.ite ?_ ?_)
      | (with_reducible refine LeO.bind ?_ (fun _ => ?_))
      | exact ih0 _ _ _ _ _ _ _ _
      | exact ih1 _ _ _ _
      | exact code_Encode.mono _ _ _ _ _ _ _
      | exact image_Image_Right.mono _ _ _ _ _
      | exact LeO.none _
      | refine LeO.ite ?_ ?_
      | refine LeO.bind ?_ (fun _ => ?_)
theorem image_Encode.mono : ∀ a0 a1 a2 a3 k, LeO (image_Encode.f k a0 a1 a2 a3) (image_Encode.f (k + 1) a0 a1 a2 a3) := by
  intro a0 a1 a2 a3 k
  obtain ⟨ih0, ih1⟩ := image_Encode.mono_l k
  unfold image_Encode.f
  repeat' first
      | (with_reducible exact ih0 _ _ _ _ _ _ _ _)
      | (with_reducible exact ih1 _ _ _ _)
      | (with_reducible exact code_Encode.mono _ _ _ _ _ _ _)
      | (with_reducible exact image_Image_Right.mono _ _ _ _ _)
      | (with_reducible exact LeO.refl _)
      | (with_reducible exact LeO.none _)
      | (with_reducible refine LeO.ite ?_ ?_)
      | (with_reducible refine LeO.bind ?_ (fun _ => ?_))
      | exact ih0 _ _ _ _ _ _ _ _
      | exact ih1 _ _ _ _
      | exact code_Encode.mono _ _ _ _ _ _ _
      | exact image_Image_Right.mono _ _ _ _ _
      | exact LeO.none _
      | refine LeO.ite ?_ ?_
      | refine LeO.bind ?_ (fun _ => ?_)
def image_Encode.T3 : Bool × List (List Nat × List Nat) := (true, [([], []), ([0], [0]), ([], []), ([2], [2]), ([1, 3], [1, 3]), ([], []), ([5], [5]), ([4, 6, 4], [4, 6]), ([7, 7, 0, 1, 2, 3, 4, 5, 6, 7], [7])])
def image_Encode.B3 : List Nat := [0, 1, 0, 4, 15, 0, 32, 127, 255]
theorem image_Encode.tab3 : rtab .any (opsOf Try.f16 3) = image_Encode.T3 := by kernel_rfl
theorem image_Encode.bits3 : waitsOk image_Encode.T3.2 image_Encode.B3 = true := by kernel_rfl
def image_Encode.T8 : Bool × List (List Nat × List Nat) := (true, [([], []), ([], []), ([1], [1]), ([0, 2], [0, 2]), ([], []), ([4], [4]), ([3, 5, 3], [3, 5]), ([6, 6, 0, 1, 2, 3, 4, 5, 6], [0, 6])])
def image_Encode.B8 : List Nat := [0, 0, 2, 7, 0, 16, 63, 127]
theorem image_Encode.tab8 : rtab .any (opsOf Try.f16 8) = image_Encode.T8 := by kernel_rfl
theorem image_Encode.bits8 : waitsOk image_Encode.T8.2 image_Encode.B8 = true := by kernel_rfl
set_option maxHeartbeats 8000000 in
set_option maxRecDepth 100000 in
theorem image_Encode.calls (k : Nat) (A0_0 : Option Addr) (c0_0 : Nat) (l0_0 : List (S26)) (A0_1 : Option Addr) (c0_1 : Nat) (l0_1 : List (S33)) (a0_2 : Int) (a0_3 : Int) (r1 : List Int) (r2 : Int) (w : World) (hr0_0 : Kd.C k26 w A0_0 l0_0.length l0_0) (hc0_0 : l0_0.length ≤ c0_0) (hr0_1 : Kd.C k33 w A0_1 l0_1.length l0_1) (hc0_1 : l0_1.length ≤ c0_1) (h : image_Encode.f k l0_0 l0_1 a0_2 a0_3 = some (r1, r2)) :
    Calls Try.prog 16 #[.agg #[.slice A0_0 l0_0.length c0_0, .slice A0_1 l0_1.length c0_1, .int .i64 a0_2, .int .i64 a0_3]] w fun e w' => ∃ v0_ : Value, e = .returned (.tuple #[v0_, .int .i64 r2]) ∧ Kd.R (Kd.int .u8) 5 w' w.heap.size (fun _ => True) v0_ r1 ∧ Below w.heap.size w w' := by
  have hu30 := Try.underlying30
  have hu33 := Try.underlying33
  have hu26 := Try.underlying26
  have HR0_0 := Aside0.mk hr0_0
  have HC0_0 := Aside0.mk hc0_0
  clear hr0_0 hc0_0
  have HR0_1 := Aside0.mk hr0_1
  have HC0_1 := Aside0.mk hc0_1
  clear hr0_1 hc0_1
  have HB := Aside0.mk (Below.refl w.heap.size w)
  have H : ((image_Image_Right.f k l0_0 l0_1 a0_2 a0_3).bind fun t133 => (if t133 = true then ((image_put.f (([112, 97, 108, 49] : List Int)) a0_3).bind fun t137 => ((image_put.f t137 a0_2).bind fun t140 => ((image_put.f t140 (l0_1.length : Int)).bind fun t143 => (image_Encode.l0 k t143 l0_1 (l0_1.length : Int) 0 l0_0 l0_1 a0_2 a0_3)))) else (some (([] : List Int), 1)))) = some (r1, r2) := h
  clear h
  replace H := Option.bind_eq_some_iff.mp H
  obtain ⟨t133, A20, H⟩ := H
  replace H : (if t133 = true then ((image_put.f (([112, 97, 108, 49] : List Int)) a0_3).bind fun t137 => ((image_put.f t137 a0_2).bind fun t140 => ((image_put.f t140 (l0_1.length : Int)).bind fun t143 => (image_Encode.l0 k t143 l0_1 (l0_1.length : Int) 0 l0_0 l0_1 a0_2 a0_3)))) else (some (([] : List Int), 1))) = some (r1, r2) := H
  have A2 := Aside0.mk A20
  clear A20
  by_cases c3 : t133 = true
  · subst c3
    have H1 : ((image_put.f (([112, 97, 108, 49] : List Int)) a0_3).bind fun t137 => ((image_put.f t137 a0_2).bind fun t140 => ((image_put.f t140 (l0_1.length : Int)).bind fun t143 => (image_Encode.l0 k t143 l0_1 (l0_1.length : Int) 0 l0_0 l0_1 a0_2 a0_3)))) = some (r1, r2) := by rw [if_pos rfl] at H; exact H
    clear H
    have H := H1
    clear H1
    obtain ⟨y134, hy134⟩ : ∃ y_ : List Int, y_ = (([112, 97, 108, 49] : List Int)) := ⟨_, rfl⟩
    replace H : ((image_put.f y134 a0_3).bind fun t137 => ((image_put.f t137 a0_2).bind fun t140 => ((image_put.f t140 (l0_1.length : Int)).bind fun t143 => (image_Encode.l0 k t143 l0_1 (l0_1.length : Int) 0 l0_0 l0_1 a0_2 a0_3)))) = some (r1, r2) := by first | (rw [hy134]; with_reducible exact H) | (have H2_ := (Option.bind_some _ _).symm.trans H; rw [hy134]; with_reducible exact H2_) | (have H2_ := (Option.bind_some _ _).symm.trans H; with_reducible exact H2_) | with_reducible exact H | (rw [hy134]; exact H) | exact H
    have Ny134 := Aside0.mk hy134
    clear hy134
    replace H := Option.bind_eq_some_iff.mp H
    obtain ⟨t137, A40, H⟩ := H
    replace H : ((image_put.f t137 a0_2).bind fun t140 => ((image_put.f t140 (l0_1.length : Int)).bind fun t143 => (image_Encode.l0 k t143 l0_1 (l0_1.length : Int) 0 l0_0 l0_1 a0_2 a0_3))) = some (r1, r2) := H
    have A4 := Aside0.mk A40
    clear A40
    replace H := Option.bind_eq_some_iff.mp H
    obtain ⟨t140, A50, H⟩ := H
    replace H : ((image_put.f t140 (l0_1.length : Int)).bind fun t143 => (image_Encode.l0 k t143 l0_1 (l0_1.length : Int) 0 l0_0 l0_1 a0_2 a0_3)) = some (r1, r2) := H
    have A5 := Aside0.mk A50
    clear A50
    replace H := Option.bind_eq_some_iff.mp H
    obtain ⟨t143, A60, H⟩ := H
    replace H : (image_Encode.l0 k t143 l0_1 (l0_1.length : Int) 0 l0_0 l0_1 a0_2 a0_3) = some (r1, r2) := H
    have A6 := Aside0.mk A60
    clear A60
    have H' := Aside0.mk H
    clear H
    go_enter Try.func16, Try.ntmps16
    try go_wp2_with (first | ((with_reducible refine gate_dst (N := 1) rfl ?_); refine box_event ?hg (N := 1) ?hd (cs := #[.slice A0_0 l0_0.length c0_0, .slice A0_1 l0_1.length c0_1, .int .i64 a0_2, .int .i64 a0_3]) (t := 30) ?hr ?_; (case hd => rfl); (case hg => rfl); (case hr => first | (go_simp; done) | (go_simp; rfl)); intro gb132 hg w7 hbox hb; have n0_ := Aside0.mk (below_step (by repeat (first | (with_reducible first | exact HB.out | apply below_alloc | apply pw_below_drewN | apply below_drew1) | exact HB.out)) hb); have n1_ := Aside0.mk (hbox); have n2_ := Aside0.mk ((by rw [hg]; exact (below_size (by repeat (first | (with_reducible first | exact HB.out | apply below_alloc | apply pw_below_drewN | apply below_drew1) | exact HB.out))) : w.heap.size ≤ gb132)); have n3_ := Aside0.mk ((by rw [hg]; exact (below_size (by repeat (first | (with_reducible first | exact HB.out | apply below_alloc | apply pw_below_drewN | apply below_drew1) | exact HB.out))) : w.heap.size ≤ gb132)); clear HB; have HB := n0_; have BK132 := n1_; have GW132 := n2_; have GE132 := n3_; clear n0_ n1_ n2_ n3_; clear hb hbox hg; have hcz8_0 : w7.cell? ⟨gb132, 0, none⟩ = some (.slice A0_0 l0_0.length c0_0) := (blk_cell BK132.out 0).trans rfl; have hcz8_1 : w7.cell? ⟨gb132, 1, none⟩ = some (.slice A0_1 l0_1.length c0_1) := (blk_cell BK132.out 1).trans rfl; have hcz8_2 : w7.cell? ⟨gb132, 2, none⟩ = some (.int .i64 a0_2) := (blk_cell BK132.out 2).trans rfl; have hcz8_3 : w7.cell? ⟨gb132, 3, none⟩ = some (.int .i64 a0_3) := (blk_cell BK132.out 3).trans rfl; have hfz8_0 := blk_frozen BK132.out 0; have hfz8_1 := blk_frozen BK132.out 1; have hfz8_2 := blk_frozen BK132.out 2; have hfz8_3 := blk_frozen BK132.out 3) | ((with_reducible refine gate_callee (f := 8) rfl ?_); refine goesL_ (some 12) rfl rfl Try.func8 (by kernel_rfl) rfl #[.agg #[.slice A0_0 l0_0.length c0_0, .slice A0_1 l0_1.length c0_1, .int .i64 a0_2, .int .i64 a0_3]] rfl (by (try simp only [List.map_toArray, List.map_cons, List.map_nil]); first | done | rfl | (simp only [List.length_drop, List.length_take]; rfl)) ?_; (with_reducible refine (image_Image_Right.calls k _ _ l0_0 _ _ l0_1 a0_2 a0_3 true _ ?side1 ?side2 ?side3 ?side4 A2.out).mono ?_); (case side1 => repeat (first | exact (Kd.C_below HR0_0.out HB.out) | (with_reducible refine Kd.C_alloc ?_ _) | (with_reducible refine Kd.C_drewN ?_ _) | (with_reducible refine Kd.C_drew ?_))); (case side2 => exact HC0_0.out); (case side3 => repeat (first | exact (Kd.C_below HR0_1.out HB.out) | (with_reducible refine Kd.C_alloc ?_ _) | (with_reducible refine Kd.C_drewN ?_ _) | (with_reducible refine Kd.C_drew ?_))); (case side4 => exact HC0_1.out); rintro e w9 ⟨rfl, hb⟩; refine ⟨_, rfl, ?_⟩; have n0_ := Aside0.mk (blk_below (g := gb132) (o := .cells #[.slice A0_0 l0_0.length c0_0, .slice A0_1 l0_1.length c0_1, .int .i64 a0_2, .int .i64 a0_3] 30 (0, 0)) (by (with_reducible repeat (first | refine blk_drewN ?_ _ | refine blk_drew ?_ | refine blk_alloc ?_ _)); exact BK132.out) hb); have n1_ := Aside0.mk (below_step (by repeat (first | (with_reducible first | exact HB.out | apply below_alloc | apply pw_below_drewN | apply below_drew1 | refine below_set ?_ GE132.out) | exact HB.out)) hb); clear BK132; clear HB; have BK132 := n0_; have HB := n1_; clear n0_ n1_; (try clear hb); (try clear hb2); (try clear hk); (try clear hi)))
    have n0_ := Aside0.mk (blk_drew BK132.out)
    have n1_ := Aside0.mk (below_drew1 HB.out)
    clear BK132
    clear HB
    have BK132 := n0_
    have HB := n1_
    clear n0_ n1_
    refine start_ (n := 9) (S := fun w' => w'.cell? ⟨gb132, 0, none⟩ = some (.slice A0_0 l0_0.length c0_0) ∧ w'.cell? ⟨gb132, 1, none⟩ = some (.slice A0_1 l0_1.length c0_1) ∧ w'.cell? ⟨gb132, 2, none⟩ = some (.int .i64 a0_2) ∧ w'.cell? ⟨gb132, 3, none⟩ = some (.int .i64 a0_3)) (ds := []) #[false, false, false, false, false, false, false, false, false] (by kernel_rfl) rfl rfl ⟨(blk_cell BK132.out 0).trans rfl, (blk_cell BK132.out 1).trans rfl, (blk_cell BK132.out 2).trans rfl, (blk_cell BK132.out 3).trans rfl⟩ (fun hHeld => ?_); refine with_tabW image_Encode.tab3 image_Encode.bits3 (fun HT_ HW_ => ?_)
    generalize w9.drew = w10 at BK132 HB hHeld ⊢
    refine pure_ (i := 2) (N := some 16) (v := ?_) (a' := ?_) #[false, false, true, false, false, false, false, false, false] rfl rfl (any_of HT_.out (by kernel_rfl)) (fun _ _ _ h => h) (Or.inl ⟨by rfl, ?_⟩) ?_ ?_
    rotate_left
    · intro w'
      go_simp
      with_reducible rfl
    rotate_left
    · simp only [Act.put, List.setIfInBounds_toArray, List.set_cons_zero, List.set_cons_succ, i64_w, i32_w]
      rfl
    refine pure_ (i := 5) (N := some 19) (v := ?_) (a' := ?_) #[false, false, true, false, false, true, false, false, false] rfl rfl (any_of HT_.out (by kernel_rfl)) (fun _ _ _ h => h) (Or.inl ⟨by rfl, ?_⟩) ?_ ?_
    rotate_left
    · intro w'
      go_simp
      with_reducible rfl
    rotate_left
    · simp only [Act.put, List.setIfInBounds_toArray, List.set_cons_zero, List.set_cons_succ, i64_w, i32_w]
      rfl
    refine take_ (i := 3) (N := some 17) (v := ?_) (a' := ?_) #[false, false, true, true, false, true, false, false, false] rfl rfl (take_ofW HT_.out HW_.out (by kernel_rfl)) (fun _ _ _ h => h) (Or.inl ⟨by rfl, ?_⟩) hHeld ?_ ?_
    rotate_left
    · rintro w' ⟨s0, s1, s2, s3⟩
      go_simp
      with_reducible rfl
    rotate_left
    · simp only [Act.put, List.setIfInBounds_toArray, List.set_cons_zero, List.set_cons_succ, i64_w, i32_w]
      rfl
    refine take_ (i := 6) (N := some 20) (v := ?_) (a' := ?_) #[false, false, true, true, false, true, true, false, false] rfl rfl (take_ofW HT_.out HW_.out (by kernel_rfl)) (fun _ _ _ h => h) (Or.inl ⟨by rfl, ?_⟩) hHeld ?_ ?_
    rotate_left
    · rintro w' ⟨s0, s1, s2, s3⟩
      go_simp
      with_reducible rfl
    rotate_left
    · simp only [Act.put, List.setIfInBounds_toArray, List.set_cons_zero, List.set_cons_succ, i64_w, i32_w]
      rfl
    refine one_ (i := 0) (N := some 14) #[true, false, true, true, false, true, true, false, false] rfl rfl (one_of HT_.out (by kernel_rfl)) (by decide) (fun K hK => ?_)
    have BKX := BK132
    have HBX := HB
    refine value_ (v := .slice (some ⟨w10.heap.size, 0, none⟩) 4 4) (w1 := w10.alloc (.cells lit4 5)) (by rfl) rfl (by first | (go_simp; done) | (go_simp; rfl)) ?_
    have n0_ : Aside0 ((w10.alloc (.cells lit4 5)).heap[gb132]? = some (.cells #[.slice A0_0 l0_0.length c0_0, .slice A0_1 l0_1.length c0_1, .int .i64 a0_2, .int .i64 a0_3] 30 (0, 0))) := ⟨blk_alloc BKX.out _⟩
    have n1_ : Aside0 (Below w.heap.size w (w10.alloc (.cells lit4 5))) := ⟨below_alloc HBX.out _⟩
    clear BK132 HB
    have BK132 := n0_
    have HB := n1_
    clear n0_ n1_
    refine hK.out _ _ ⟨(blk_cell BK132.out 0).trans rfl, (blk_cell BK132.out 1).trans rfl, (blk_cell BK132.out 2).trans rfl, (blk_cell BK132.out 3).trans rfl⟩ (fun hHeld => ?_)
    clear hK K
    refine norm_ (a' := ?_) ?_ ?_
    rotate_left
    · show Act.put _ (some 14) _ = _
      simp only [Act.put, List.setIfInBounds_toArray, List.set_cons_zero, List.set_cons_succ, i64_w, i32_w]
      rfl
    refine one_ (i := 1) (N := some 15) #[true, true, true, true, false, true, true, false, false] rfl rfl (one_of HT_.out (by kernel_rfl)) (by decide) (fun K hK => ?_)
    have hcvM := Go.Joins.run_convert_bytes_const_at (P := Try.prog) w10 41 5 lit4 4 4 w10.heap.size rfl Try.underlying41 Try.underlying5
    refine value_ (v := .slice (some ⟨w10.heap.size, 0, none⟩) 4 4) (w1 := w10.alloc (.cells lit4 5 (4, 5))) (by rfl) rfl (by go_simp; first | done | rfl | (rw [hcvM]; rfl)) ?_
    have n0_ : Aside0 ((w10.alloc (.cells lit4 5 (4, 5))).heap[gb132]? = some (.cells #[.slice A0_0 l0_0.length c0_0, .slice A0_1 l0_1.length c0_1, .int .i64 a0_2, .int .i64 a0_3] 30 (0, 0))) := ⟨blk_alloc BKX.out _⟩
    have n1_ : Aside0 (Below w.heap.size w (w10.alloc (.cells lit4 5 (4, 5)))) := ⟨below_alloc HBX.out _⟩
    have BKM := Aside0.mk (show (w10.alloc (.cells lit4 5 (4, 5))).heap[w10.heap.size]? = some (.cells lit4 5 (4, 5)) from heap_alloc_new w10 _)
    clear BK132 HB hcvM
    have BK132 := n0_
    have HB := n1_
    clear n0_ n1_
    refine hK.out _ _ ⟨(blk_cell BK132.out 0).trans rfl, (blk_cell BK132.out 1).trans rfl, (blk_cell BK132.out 2).trans rfl, (blk_cell BK132.out 3).trans rfl⟩ (fun hHeld => ?_)
    clear hK K
    refine norm_ (a' := ?_) ?_ ?_
    rotate_left
    · show Act.put _ (some 15) _ = _
      simp only [Act.put, List.setIfInBounds_toArray, List.set_cons_zero, List.set_cons_succ, i64_w, i32_w]
      rfl
    refine one_ (i := 4) (N := some 18) #[true, true, true, true, true, true, true, false, false] rfl rfl (one_of HT_.out (by kernel_rfl)) (by decide) (fun K hK => ?_)
    refine goes_ Try.func23 (by kernel_rfl) rfl #[.slice (some ⟨w10.heap.size, 0, none⟩) 4 4, .int .i64 a0_3] (by rfl) rfl rfl (by (try simp only [List.map_toArray, List.map_cons, List.map_nil]); first | done | rfl) ?_
    refine (put_lit w10.heap.size a0_3 _ BKM.out).mono ?_
    rintro e w14 ⟨v138, rfl, ho0, hb⟩
    refine ⟨_, rfl, ?_⟩
    have e129 : ([112, 97, 108, 49] : List Int) ++ [a0_3 % 256, a0_3 / 256 % 256, a0_3 / 65536 % 256, a0_3 / 16777216 % 256] = t137 := by have h4 := A4.out; rw [Ny134.out] at h4; unfold image_put.f at h4; simp only [Option.bind_some] at h4; rw [if_pos (by simp)] at h4; exact Option.some.inj h4
    rw [e129] at ho0
    have n0_ := Aside0.mk (blk_below BK132.out hb)
    have n1_ := Aside0.mk (Kd.R_lower ho0 (below_size HB.out))
    have n2_ := Aside0.mk (below_step HB.out hb)
    clear BK132 HB BKM hb ho0
    have BK132 := n0_
    have HO139 := n1_
    have HB := n2_
    clear n0_ n1_ n2_
    (try clear hb)
    (try clear hkp)
    (try clear ho0)
    obtain ⟨Ao15, co15, eo15⟩ := Kd.R_slice HO139.out
    (first | subst eo15 | (injection eo15 with f1_ f2_ f3_; have f4_ := f1_.symm; have f5_ := f3_.symm; clear f1_ f2_ f3_; subst f4_; subst f5_))
    refine hK.out _ _ ⟨(blk_cell BK132.out 0).trans rfl, (blk_cell BK132.out 1).trans rfl, (blk_cell BK132.out 2).trans rfl, (blk_cell BK132.out 3).trans rfl⟩ (fun hHeld => ?_)
    clear hK K
    refine norm_ (a' := ?_) ?_ ?_
    rotate_left
    · show Act.put _ (some 18) _ = _
      simp only [Act.put, List.setIfInBounds_toArray, List.set_cons_zero, List.set_cons_succ, i64_w, i32_w]
      rfl
    refine one_ (i := 7) (N := some 21) #[true, true, true, true, true, true, true, true, false] rfl rfl (one_of HT_.out (by kernel_rfl)) (by decide) (fun K hK => ?_)
    refine goes_ Try.func23 (by kernel_rfl) rfl #[.slice Ao15 t137.length co15, .int .i64 a0_2] (by rfl) rfl rfl (by (try simp only [List.map_toArray, List.map_cons, List.map_nil]); first | done | rfl | (simp only [List.length_drop, List.length_take]; rfl)) ?_
    with_reducible refine (image_put.calls (fun k_ => some k_ = (.slice Ao15 t137.length co15 : Value).ownBlock) (.slice Ao15 t137.length co15) t137 a0_2 t140 w _ ?side1 ?side2 A5.out).mono ?_
    (case side1 => repeat (first | (with_reducible first | exact HB.out | apply below_alloc | apply pw_below_drewN | apply below_drew1 | refine below_set ?_ GE132.out) | exact HB.out))
    (case side2 => exact Kd.R_tight rfl HO139.out)
    rintro e w16 ⟨v141, rfl, ho0, hb, hkp⟩
    refine ⟨_, rfl, ?_⟩
    have n0_ := Aside0.mk (blk_kept (by (with_reducible repeat (first | refine blk_drewN ?_ _ | refine blk_drew ?_ | refine blk_alloc ?_ _)); exact BK132.out) hkp (fun hs_ => (fun e_ => (Kd.R_ne HO139.out BK132.out (by decide)) e_) hs_))
    have n1_ := Aside0.mk (Kd.R_mono (ok' := fun k_ => True) ho0 (fun k_ hk_ => trivial))
    have n2_ := Aside0.mk (hb)
    clear BK132
    clear HB
    clear HO139
    have BK132 := n0_
    have HO142 := n1_
    have HB := n2_
    clear n0_ n1_ n2_
    (try clear hb)
    (try clear hkp)
    (try clear ho0)
    refine hK.out _ _ ⟨(blk_cell BK132.out 0).trans rfl, (blk_cell BK132.out 1).trans rfl, (blk_cell BK132.out 2).trans rfl, (blk_cell BK132.out 3).trans rfl⟩ (fun hHeld => ?_)
    clear hK K
    refine norm_ (a' := ?_) ?_ ?_
    rotate_left
    · show Act.put _ (some 21) _ = _
      simp only [Act.put, List.setIfInBounds_toArray, List.set_cons_zero, List.set_cons_succ, i64_w, i32_w]
      rfl
    refine pure_ (i := 8) (N := some 4) (v := ?_) (a' := ?_) #[true, true, true, true, true, true, true, true, true] rfl rfl (any_of HT_.out (by kernel_rfl)) (fun _ _ _ h => h) (Or.inl ⟨by rfl, ?_⟩) ?_ ?_
    rotate_left
    · intro w'
      go_simp
      with_reducible rfl
    rotate_left
    · simp only [Act.put, List.setIfInBounds_toArray, List.set_cons_zero, List.set_cons_succ, i64_w, i32_w]
      rfl
    refine done_ (done_of HT_.out (by kernel_rfl)) ?_
    have hcz17_0 : w16.cell? ⟨gb132, 0, none⟩ = some (.slice A0_0 l0_0.length c0_0) := (blk_cell BK132.out 0).trans rfl
    have hcz17_1 : w16.cell? ⟨gb132, 1, none⟩ = some (.slice A0_1 l0_1.length c0_1) := (blk_cell BK132.out 1).trans rfl
    have hcz17_2 : w16.cell? ⟨gb132, 2, none⟩ = some (.int .i64 a0_2) := (blk_cell BK132.out 2).trans rfl
    have hcz17_3 : w16.cell? ⟨gb132, 3, none⟩ = some (.int .i64 a0_3) := (blk_cell BK132.out 3).trans rfl
    have hfz17_0 := blk_frozen BK132.out 0
    have hfz17_1 := blk_frozen BK132.out 1
    have hfz17_2 := blk_frozen BK132.out 2
    have hfz17_3 := blk_frozen BK132.out 3
    obtain ⟨Ao18, co18, eo18⟩ := Kd.R_slice HO142.out
    subst eo18
    try go_wp2_with (first | ((with_reducible refine gate_callee (f := 23) rfl ?_); refine goesL_ (some 26) rfl rfl Try.func23 (by kernel_rfl) rfl #[.slice Ao18 t140.length co18, .int .i64 (l0_1.length : Int)] rfl (by (try simp only [List.map_toArray, List.map_cons, List.map_nil]); first | done | rfl | (simp only [List.length_drop, List.length_take]; rfl)) ?_; (with_reducible refine (image_put.calls (fun k_ => some k_ = (.slice Ao18 t140.length co18 : Value).ownBlock) (.slice Ao18 t140.length co18) t140 (l0_1.length : Int) t143 w _ ?side1 ?side2 A6.out).mono ?_); (case side1 => repeat (first | (with_reducible first | exact HB.out | apply below_alloc | apply pw_below_drewN | apply below_drew1 | refine below_set ?_ GE132.out) | exact HB.out)); (case side2 => exact Kd.R_tight rfl HO142.out); rintro e w19 ⟨v144, rfl, ho0, hb, hkp⟩; refine ⟨_, rfl, ?_⟩; have n0_ := Aside0.mk (blk_kept (by (with_reducible repeat (first | refine blk_drewN ?_ _ | refine blk_drew ?_ | refine blk_alloc ?_ _)); exact BK132.out) hkp (fun hs_ => (fun e_ => (Kd.R_ne HO142.out BK132.out (by decide)) e_) hs_)); have n1_ := Aside0.mk (Kd.R_mono (ok' := fun k_ => True) ho0 (fun k_ hk_ => trivial)); have n2_ := Aside0.mk (hb); clear BK132; clear HB; clear HO142; have BK132 := n0_; have HO145 := n1_; have HB := n2_; clear n0_ n1_ n2_; (try clear hb); (try clear hkp); (try clear ho0); have hcz20_0 : w19.cell? ⟨gb132, 0, none⟩ = some (.slice A0_0 l0_0.length c0_0) := (blk_cell BK132.out 0).trans rfl; have hcz20_1 : w19.cell? ⟨gb132, 1, none⟩ = some (.slice A0_1 l0_1.length c0_1) := (blk_cell BK132.out 1).trans rfl; have hcz20_2 : w19.cell? ⟨gb132, 2, none⟩ = some (.int .i64 a0_2) := (blk_cell BK132.out 2).trans rfl; have hcz20_3 : w19.cell? ⟨gb132, 3, none⟩ = some (.int .i64 a0_3) := (blk_cell BK132.out 3).trans rfl; have hfz20_0 := blk_frozen BK132.out 0; have hfz20_1 := blk_frozen BK132.out 1; have hfz20_2 := blk_frozen BK132.out 2; have hfz20_3 := blk_frozen BK132.out 3))
    go_loopg [4, 30] k (fun kq v4 v30 w' => ∃ (x4_1 : List Int) (x30_1 : Int), v30 = .int .i64 x30_1 ∧ Aside0 (image_Encode.l0 kq x4_1 l0_1 (l0_1.length : Int) x30_1 l0_0 l0_1 a0_2 a0_3 = some (r1, r2)) ∧ Aside0 (kq ≤ k) ∧ Aside0 (Kd.R (Kd.int .u8) 5 w' w.heap.size (fun _ => True) v4 x4_1) ∧ Aside0 (w'.heap[gb132]? = some (.cells #[(.slice A0_0 l0_0.length c0_0), (.slice A0_1 l0_1.length c0_1), .int .i64 a0_2, .int .i64 a0_3] 30 (0, 0))) ∧ Aside0 (Below w.heap.size w w'))
    case atStart => exact ⟨(t143), (0), (by first | rfl | (simp; done) | (simp [*]; done)), H', ⟨Nat.le_refl _⟩, ⟨by (with_reducible repeat (first | apply Kd.R_alloc | apply Kd.R_drewN | apply Kd.R_drew)); exact HO145.out⟩, ⟨by (with_reducible repeat (first | refine blk_drewN ?_ _ | refine blk_drew ?_ | refine blk_alloc ?_ _)); exact BK132.out⟩, ⟨by repeat (first | (with_reducible first | exact HB.out | apply below_alloc | apply pw_below_drewN | apply below_drew1 | refine below_set ?_ GE132.out) | exact HB.out)⟩⟩
    case round =>
      clear H'
      try clear c1
      try clear c2
      try clear p2
      try clear c3
      try clear c8
      try clear c16
      try clear hcz17_0
      try clear hcz17_1
      try clear hcz17_2
      try clear hcz17_3
      try clear hcz20_0
      try clear hcz20_1
      try clear hcz20_2
      try clear hcz20_3
      try clear hcz8_0
      try clear hcz8_1
      try clear hcz8_2
      try clear hcz8_3
      try clear hfz17_0
      try clear hfz17_1
      try clear hfz17_2
      try clear hfz17_3
      try clear hfz20_0
      try clear hfz20_1
      try clear hfz20_2
      try clear hfz20_3
      try clear hfz8_0
      try clear hfz8_1
      try clear hfz8_2
      try clear hfz8_3
      obtain ⟨x4_1, x30_1, rfl, HA, HK1, HO_4, BK132, HB⟩ := hrel
      cases gk with
      | zero => exact absurd HA.out (by simp [image_Encode.l0])
      | succ k1 =>
        have H := HA.out
        clear HA
        simp only [image_Encode.l0] at H
        by_cases c21 : x30_1 < (l0_1.length : Int)
        · rw [if_pos c21] at H
          have c21b0 : decide (x30_1 < (l0_1.length : Int)) = true := decide_eq_true c21
          clear c21
          by_cases c22 : 0 ≤ x30_1
          · rw [if_pos c22] at H
            have c22b0 : decide (0 ≤ x30_1) = true := decide_eq_true c22
            clear c22
            by_cases c23 : x30_1 < (l0_1.length : Int)
            · rw [if_pos c23] at H
              have c23b0 : decide (x30_1 < (l0_1.length : Int)) = true := decide_eq_true c23
              clear c23
              replace H := Option.bind_eq_some_iff.mp H
              obtain ⟨t148, A240, H⟩ := H
              replace H : ((image_put.f t148 ((rd_T33 l0_1 x30_1).f2)).bind fun t151 => (image_Encode.l0 k1 t151 l0_1 (l0_1.length : Int) (wrap64 (x30_1 + 1)) l0_0 l0_1 a0_2 a0_3)) = some (r1, r2) := H
              have A24 := Aside0.mk A240
              clear A240
              replace H := Option.bind_eq_some_iff.mp H
              obtain ⟨t151, A250, H⟩ := H
              replace H : (image_Encode.l0 k1 t151 l0_1 (l0_1.length : Int) (wrap64 (x30_1 + 1)) l0_0 l0_1 a0_2 a0_3) = some (r1, r2) := H
              have A25 := Aside0.mk A250
              clear A250
              have H' := Aside0.mk H
              clear H
              have p146 : 0 ≤ (x30_1 : Int) := of_decide_eq_true (by first | (with_reducible assumption) | assumption)
              have q146 : x30_1 < (l0_1.length : Int) := of_decide_eq_true (by first | (with_reducible assumption) | assumption)
              obtain ⟨ad146, e146, hx146_0, hx146_1, hx146_2⟩ := at_T33 HR0_1.out x30_1 p146 q146
              cases e146
              replace hx146_0 := (HB.out.cell (World.block_lt_of_cell? w _ hx146_0)).trans hx146_0
              replace hx146_1 := (HB.out.cell (World.block_lt_of_cell? w _ hx146_1)).trans hx146_1
              replace hx146_2 := (HB.out.cell (World.block_lt_of_cell? w _ hx146_2)).trans hx146_2
              replace p146 := eq_true p146
              replace q146 := eq_true q146
              try go_wp2_with (first | ((with_reducible refine gate_dst (N := 6) rfl ?_); refine box_event ?hg (N := 6) ?hd (cs := #[.int .i64 0, .int .i64 0, .int .i64 0]) (t := 33) ?hr ?_; (case hd => rfl); (case hg => rfl); (case hr => first | (go_simp; done) | (go_simp; rfl)); intro gb147 hg w26 hbox hb; have n0_ := Aside0.mk (Kd.R_below (by (with_reducible repeat (first | apply Kd.R_alloc | apply Kd.R_drewN | apply Kd.R_drew)); exact HO_4.out) hb); have n1_ := Aside0.mk (blk_below (g := gb132) (o := .cells #[.slice A0_0 l0_0.length c0_0, .slice (some ad146) l0_1.length c0_1, .int .i64 a0_2, .int .i64 a0_3] 30 (0, 0)) (by (with_reducible repeat (first | refine blk_drewN ?_ _ | refine blk_drew ?_ | refine blk_alloc ?_ _)); exact BK132.out) hb); have n2_ := Aside0.mk (below_step (by repeat (first | (with_reducible first | exact HB.out | apply below_alloc | apply pw_below_drewN | apply below_drew1 | refine below_set ?_ GE132.out) | exact HB.out)) hb); have n3_ := Aside0.mk (hbox); have n4_ := Aside0.mk ((by rw [hg]; exact (below_size (by repeat (first | (with_reducible first | exact HB.out | apply below_alloc | apply pw_below_drewN | apply below_drew1 | refine below_set ?_ GE132.out) | exact HB.out))) : w.heap.size ≤ gb147)); have n5_ := Aside0.mk ((by rw [hg]; exact (below_size (by repeat (first | (with_reducible first | exact HB.out | apply below_alloc | apply pw_below_drewN | apply below_drew1 | refine below_set ?_ GE132.out) | exact HB.out))) : w.heap.size ≤ gb147)); have n6_ := Aside0.mk ((by rw [hg]; exact Nat.ne_of_lt (blk_lt (g := gb132) (o := .cells #[.slice A0_0 l0_0.length c0_0, .slice (some ad146) l0_1.length c0_1, .int .i64 a0_2, .int .i64 a0_3] 30 (0, 0)) (by (with_reducible repeat (first | refine blk_drewN ?_ _ | refine blk_drew ?_ | refine blk_alloc ?_ _)); exact BK132.out)) : gb132 ≠ gb147)); have n7_ := Aside0.mk ((by rw [hg]; exact Nat.ne_of_gt (blk_lt (g := gb132) (o := .cells #[.slice A0_0 l0_0.length c0_0, .slice (some ad146) l0_1.length c0_1, .int .i64 a0_2, .int .i64 a0_3] 30 (0, 0)) (by (with_reducible repeat (first | refine blk_drewN ?_ _ | refine blk_drew ?_ | refine blk_alloc ?_ _)); exact BK132.out)) : gb147 ≠ gb132)); clear HO_4; clear BK132; clear HB; have HO_4 := n0_; have BK132 := n1_; have HB := n2_; have BK147 := n3_; have GW147 := n4_; have GE147 := n5_; have NB132_147 := n6_; have NB147_132 := n7_; clear n0_ n1_ n2_ n3_ n4_ n5_ n6_ n7_; clear hb hbox hg; have hnb27 := NB147_132.out; have hnc27 := NB132_147.out; have hcz28_0 : w26.cell? ⟨gb147, 0, none⟩ = some (.int .i64 0) := (blk_cell BK147.out 0).trans rfl; have hcz28_1 : w26.cell? ⟨gb147, 1, none⟩ = some (.int .i64 0) := (blk_cell BK147.out 1).trans rfl; have hcz28_2 : w26.cell? ⟨gb147, 2, none⟩ = some (.int .i64 0) := (blk_cell BK147.out 2).trans rfl; have hfz28_0 := blk_frozen BK147.out 0; have hfz28_1 := blk_frozen BK147.out 1; have hfz28_2 := blk_frozen BK147.out 2))
              have n0_ : Aside0 (Kd.R (Kd.int .u8) 5 (((w26.setCell ⟨gb147, 0, none⟩ (.int .i64 ((rd_T33 l0_1 x30_1).f0))).setCell ⟨gb147, 1, none⟩ (.int .i64 ((rd_T33 l0_1 x30_1).f1))).setCell ⟨gb147, 2, none⟩ (.int .i64 ((rd_T33 l0_1 x30_1).f2))) w.heap.size (fun _ => True) u4 x4_1) := ⟨by (with_reducible repeat (first | apply Kd.R_alloc | apply Kd.R_drewN | apply Kd.R_drew)); exact Kd.R_mono (Kd.R_far (p := ⟨gb147, 2, none⟩) (Kd.R_far (p := ⟨gb147, 1, none⟩) (Kd.R_far (p := ⟨gb147, 0, none⟩) (Kd.R_types HO_4.out BK147.out (by decide)) (fun _ hk => hk.2) (.int .i64 ((rd_T33 l0_1 x30_1).f0))) (fun _ hk => hk.2) (.int .i64 ((rd_T33 l0_1 x30_1).f1))) (fun _ hk => hk.2) (.int .i64 ((rd_T33 l0_1 x30_1).f2))) (fun _ hk => trivial)⟩
              have n1_ : Aside0 ((((w26.setCell ⟨gb147, 0, none⟩ (.int .i64 ((rd_T33 l0_1 x30_1).f0))).setCell ⟨gb147, 1, none⟩ (.int .i64 ((rd_T33 l0_1 x30_1).f1))).setCell ⟨gb147, 2, none⟩ (.int .i64 ((rd_T33 l0_1 x30_1).f2))).heap[gb132]? = some (.cells #[.slice A0_0 l0_0.length c0_0, .slice (some ad146) l0_1.length c0_1, .int .i64 a0_2, .int .i64 a0_3] 30 (0, 0))) := ⟨by (with_reducible repeat (first | refine blk_drewN ?_ _ | refine blk_drew ?_ | refine blk_alloc ?_ _)); refine blk_far ?_ NB132_147.out _; (with_reducible repeat (first | refine blk_drewN ?_ _ | refine blk_drew ?_ | refine blk_alloc ?_ _)); refine blk_far ?_ NB132_147.out _; (with_reducible repeat (first | refine blk_drewN ?_ _ | refine blk_drew ?_ | refine blk_alloc ?_ _)); refine blk_far ?_ NB132_147.out _; (with_reducible repeat (first | refine blk_drewN ?_ _ | refine blk_drew ?_ | refine blk_alloc ?_ _)); exact BK132.out⟩
              have n2_ : Aside0 ((((w26.setCell ⟨gb147, 0, none⟩ (.int .i64 ((rd_T33 l0_1 x30_1).f0))).setCell ⟨gb147, 1, none⟩ (.int .i64 ((rd_T33 l0_1 x30_1).f1))).setCell ⟨gb147, 2, none⟩ (.int .i64 ((rd_T33 l0_1 x30_1).f2))).heap[gb147]? = some (.cells #[.int .i64 ((rd_T33 l0_1 x30_1).f0), .int .i64 ((rd_T33 l0_1 x30_1).f1), .int .i64 ((rd_T33 l0_1 x30_1).f2)] 33 (0, 0))) := ⟨by (with_reducible repeat (first | refine blk_drewN ?_ _ | refine blk_drew ?_ | refine blk_alloc ?_ _)); refine blk_put (cs := #[.int .i64 ((rd_T33 l0_1 x30_1).f0), .int .i64 ((rd_T33 l0_1 x30_1).f1), .int .i64 0]) ?_ 2 _ rfl; (with_reducible repeat (first | refine blk_drewN ?_ _ | refine blk_drew ?_ | refine blk_alloc ?_ _)); refine blk_put (cs := #[.int .i64 ((rd_T33 l0_1 x30_1).f0), .int .i64 0, .int .i64 0]) ?_ 1 _ rfl; (with_reducible repeat (first | refine blk_drewN ?_ _ | refine blk_drew ?_ | refine blk_alloc ?_ _)); refine blk_put (cs := #[.int .i64 0, .int .i64 0, .int .i64 0]) ?_ 0 _ rfl; (with_reducible repeat (first | refine blk_drewN ?_ _ | refine blk_drew ?_ | refine blk_alloc ?_ _)); exact BK147.out⟩
              have n3_ : Aside0 (Below w.heap.size w (((w26.setCell ⟨gb147, 0, none⟩ (.int .i64 ((rd_T33 l0_1 x30_1).f0))).setCell ⟨gb147, 1, none⟩ (.int .i64 ((rd_T33 l0_1 x30_1).f1))).setCell ⟨gb147, 2, none⟩ (.int .i64 ((rd_T33 l0_1 x30_1).f2)))) := ⟨by repeat (first | (with_reducible first | exact HB.out | apply below_alloc | apply pw_below_drewN | apply below_drew1 | refine below_set ?_ GE132.out | refine below_set ?_ GE147.out) | exact HB.out)⟩
              (try clear HO_4)
              (try clear BK132)
              (try clear BK147)
              (try clear HB)
              generalize (((w26.setCell ⟨gb147, 0, none⟩ (.int .i64 ((rd_T33 l0_1 x30_1).f0))).setCell ⟨gb147, 1, none⟩ (.int .i64 ((rd_T33 l0_1 x30_1).f1))).setCell ⟨gb147, 2, none⟩ (.int .i64 ((rd_T33 l0_1 x30_1).f2))) = w29 at n0_ n1_ n2_ n3_ ⊢
              have HO_4 := n0_
              have BK132 := n1_
              have BK147 := n2_
              have HB := n3_
              clear n0_ n1_ n2_ n3_
              have n0_ := Aside0.mk (Kd.R_drew HO_4.out)
              have n1_ := Aside0.mk (blk_drew BK132.out)
              have n2_ := Aside0.mk (blk_drew BK147.out)
              have n3_ := Aside0.mk (below_drew1 HB.out)
              clear HO_4
              clear BK132
              clear BK147
              clear HB
              have HO_4 := n0_
              have BK132 := n1_
              have BK147 := n2_
              have HB := n3_
              clear n0_ n1_ n2_ n3_
              obtain ⟨Ao31, co31, eo31⟩ := Kd.R_slice HO_4.out
              (first | subst eo31 | (injection eo31 with f1_ f2_ f3_; have f4_ := f1_.symm; have f5_ := f3_.symm; clear f1_ f2_ f3_; subst f4_; subst f5_))
              refine start_ (n := 8) (S := fun w' => w'.cell? ⟨gb147, 0, none⟩ = some (.int .i64 ((rd_T33 l0_1 x30_1).f0)) ∧ w'.cell? ⟨gb147, 1, none⟩ = some (.int .i64 ((rd_T33 l0_1 x30_1).f1)) ∧ w'.cell? ⟨gb147, 2, none⟩ = some (.int .i64 ((rd_T33 l0_1 x30_1).f2))) (ds := []) #[false, false, false, false, false, false, false, false] (by kernel_rfl) rfl rfl ⟨(blk_cell BK147.out 0).trans rfl, (blk_cell BK147.out 1).trans rfl, (blk_cell BK147.out 2).trans rfl⟩ (fun hHeld => ?_); refine with_tabW image_Encode.tab8 image_Encode.bits8 (fun HT_ HW_ => ?_)
              generalize w29.drew = w30 at HO_4 BK132 BK147 HB hHeld ⊢
              refine pure_ (i := 0) (N := some 34) (v := ?_) (a' := ?_) #[true, false, false, false, false, false, false, false] rfl rfl (any_of HT_.out (by kernel_rfl)) (fun _ _ _ h => h) (Or.inl ⟨by rfl, ?_⟩) ?_ ?_
              rotate_left
              · intro w'
                go_simp
                with_reducible rfl
              rotate_left
              · simp only [Act.put, List.setIfInBounds_toArray, List.set_cons_zero, List.set_cons_succ, i64_w, i32_w]
                rfl
              refine pure_ (i := 1) (N := some 35) (v := ?_) (a' := ?_) #[true, true, false, false, false, false, false, false] rfl rfl (any_of HT_.out (by kernel_rfl)) (fun _ _ _ h => h) (Or.inl ⟨by rfl, ?_⟩) ?_ ?_
              rotate_left
              · intro w'
                go_simp
                with_reducible rfl
              rotate_left
              · simp only [Act.put, List.setIfInBounds_toArray, List.set_cons_zero, List.set_cons_succ, i64_w, i32_w]
                rfl
              refine pure_ (i := 4) (N := some 38) (v := ?_) (a' := ?_) #[true, true, false, false, true, false, false, false] rfl rfl (any_of HT_.out (by kernel_rfl)) (fun _ _ _ h => h) (Or.inl ⟨by rfl, ?_⟩) ?_ ?_
              rotate_left
              · intro w'
                go_simp
                with_reducible rfl
              rotate_left
              · simp only [Act.put, List.setIfInBounds_toArray, List.set_cons_zero, List.set_cons_succ, i64_w, i32_w]
                rfl
              refine take_ (i := 2) (N := some 36) (v := ?_) (a' := ?_) #[true, true, true, false, true, false, false, false] rfl rfl (take_ofW HT_.out HW_.out (by kernel_rfl)) (fun _ _ _ h => h) (Or.inl ⟨by rfl, ?_⟩) hHeld ?_ ?_
              rotate_left
              · rintro w' ⟨s0, s1, s2⟩
                go_simp
                with_reducible rfl
              rotate_left
              · simp only [Act.put, List.setIfInBounds_toArray, List.set_cons_zero, List.set_cons_succ, i64_w, i32_w]
                rfl
              refine take_ (i := 5) (N := some 39) (v := ?_) (a' := ?_) #[true, true, true, false, true, true, false, false] rfl rfl (take_ofW HT_.out HW_.out (by kernel_rfl)) (fun _ _ _ h => h) (Or.inl ⟨by rfl, ?_⟩) hHeld ?_ ?_
              rotate_left
              · rintro w' ⟨s0, s1, s2⟩
                go_simp
                with_reducible rfl
              rotate_left
              · simp only [Act.put, List.setIfInBounds_toArray, List.set_cons_zero, List.set_cons_succ, i64_w, i32_w]
                rfl
              refine one_ (i := 3) (N := some 37) #[true, true, true, true, true, true, false, false] rfl rfl (one_of HT_.out (by kernel_rfl)) (by decide) (fun K hK => ?_)
              refine goes_ Try.func23 (by kernel_rfl) rfl #[.slice Ao31 x4_1.length co31, .int .i64 ((rd_T33 l0_1 x30_1).f1)] (by rfl) rfl rfl (by (try simp only [List.map_toArray, List.map_cons, List.map_nil]); first | done | rfl | (simp only [List.length_drop, List.length_take]; rfl)) ?_
              with_reducible refine (image_put.calls (fun k_ => some k_ = (.slice Ao31 x4_1.length co31 : Value).ownBlock) (.slice Ao31 x4_1.length co31) x4_1 ((rd_T33 l0_1 x30_1).f1) t148 w _ ?side1 ?side2 A24.out).mono ?_
              (case side1 => repeat (first | (with_reducible first | exact HB.out | apply below_alloc | apply pw_below_drewN | apply below_drew1 | refine below_set ?_ GE132.out | refine below_set ?_ GE147.out) | exact HB.out))
              (case side2 => exact Kd.R_tight rfl HO_4.out)
              rintro e w32 ⟨v149, rfl, ho0, hb, hkp⟩
              refine ⟨_, rfl, ?_⟩
              have n0_ := Aside0.mk (blk_kept (by (with_reducible repeat (first | refine blk_drewN ?_ _ | refine blk_drew ?_ | refine blk_alloc ?_ _)); exact BK132.out) hkp (fun hs_ => (fun e_ => (Kd.R_ne HO_4.out BK132.out (by decide)) e_) hs_))
              have n1_ := Aside0.mk (blk_kept (by (with_reducible repeat (first | refine blk_drewN ?_ _ | refine blk_drew ?_ | refine blk_alloc ?_ _)); exact BK147.out) hkp (fun hs_ => (fun e_ => (Kd.R_ne HO_4.out BK147.out (by decide)) e_) hs_))
              have n2_ := Aside0.mk (Kd.R_mono (ok' := fun k_ => True) ho0 (fun k_ hk_ => trivial))
              have n3_ := Aside0.mk (hb)
              clear BK132
              clear BK147
              clear HB
              clear HO_4
              have BK132 := n0_
              have BK147 := n1_
              have HO150 := n2_
              have HB := n3_
              clear n0_ n1_ n2_ n3_
              (try clear hb)
              (try clear hkp)
              (try clear ho0)
              obtain ⟨Ao33, co33, eo33⟩ := Kd.R_slice HO150.out
              (first | subst eo33 | (injection eo33 with f1_ f2_ f3_; have f4_ := f1_.symm; have f5_ := f3_.symm; clear f1_ f2_ f3_; subst f4_; subst f5_))
              refine hK.out _ _ ⟨(blk_cell BK147.out 0).trans rfl, (blk_cell BK147.out 1).trans rfl, (blk_cell BK147.out 2).trans rfl⟩ (fun hHeld => ?_)
              clear hK K
              refine norm_ (a' := ?_) ?_ ?_
              rotate_left
              · show Act.put _ (some 37) _ = _
                simp only [Act.put, List.setIfInBounds_toArray, List.set_cons_zero, List.set_cons_succ, i64_w, i32_w]
                rfl
              refine one_ (i := 6) (N := some 40) #[true, true, true, true, true, true, true, false] rfl rfl (one_of HT_.out (by kernel_rfl)) (by decide) (fun K hK => ?_)
              refine goes_ Try.func23 (by kernel_rfl) rfl #[.slice Ao33 t148.length co33, .int .i64 ((rd_T33 l0_1 x30_1).f2)] (by rfl) rfl rfl (by (try simp only [List.map_toArray, List.map_cons, List.map_nil]); first | done | rfl | (simp only [List.length_drop, List.length_take]; rfl)) ?_
              with_reducible refine (image_put.calls (fun k_ => some k_ = (.slice Ao33 t148.length co33 : Value).ownBlock) (.slice Ao33 t148.length co33) t148 ((rd_T33 l0_1 x30_1).f2) t151 w _ ?side1 ?side2 A25.out).mono ?_
              (case side1 => repeat (first | (with_reducible first | exact HB.out | apply below_alloc | apply pw_below_drewN | apply below_drew1 | refine below_set ?_ GE132.out | refine below_set ?_ GE147.out) | exact HB.out))
              (case side2 => exact Kd.R_tight rfl HO150.out)
              rintro e w34 ⟨v152, rfl, ho0, hb, hkp⟩
              refine ⟨_, rfl, ?_⟩
              have n0_ := Aside0.mk (blk_kept (by (with_reducible repeat (first | refine blk_drewN ?_ _ | refine blk_drew ?_ | refine blk_alloc ?_ _)); exact BK132.out) hkp (fun hs_ => (fun e_ => (Kd.R_ne HO150.out BK132.out (by decide)) e_) hs_))
              have n1_ := Aside0.mk (blk_kept (by (with_reducible repeat (first | refine blk_drewN ?_ _ | refine blk_drew ?_ | refine blk_alloc ?_ _)); exact BK147.out) hkp (fun hs_ => (fun e_ => (Kd.R_ne HO150.out BK147.out (by decide)) e_) hs_))
              have n2_ := Aside0.mk (Kd.R_mono (ok' := fun k_ => True) ho0 (fun k_ hk_ => trivial))
              have n3_ := Aside0.mk (hb)
              clear BK132
              clear BK147
              clear HB
              clear HO150
              have BK132 := n0_
              have BK147 := n1_
              have HO153 := n2_
              have HB := n3_
              clear n0_ n1_ n2_ n3_
              (try clear hb)
              (try clear hkp)
              (try clear ho0)
              refine hK.out _ _ ⟨(blk_cell BK147.out 0).trans rfl, (blk_cell BK147.out 1).trans rfl, (blk_cell BK147.out 2).trans rfl⟩ (fun hHeld => ?_)
              clear hK K
              refine norm_ (a' := ?_) ?_ ?_
              rotate_left
              · show Act.put _ (some 40) _ = _
                simp only [Act.put, List.setIfInBounds_toArray, List.set_cons_zero, List.set_cons_succ, i64_w, i32_w]
                rfl
              refine pure_ (i := 7) (N := some 4) (v := ?_) (a' := ?_) #[true, true, true, true, true, true, true, true] rfl rfl (any_of HT_.out (by kernel_rfl)) (fun _ _ _ h => h) (Or.inl ⟨by rfl, ?_⟩) ?_ ?_
              rotate_left
              · intro w'
                go_simp
                with_reducible rfl
              rotate_left
              · simp only [Act.put, List.setIfInBounds_toArray, List.set_cons_zero, List.set_cons_succ, i64_w, i32_w]
                rfl
              refine done_ (done_of HT_.out (by kernel_rfl)) ?_
              try go_wp2
              go_roundg k1
              case measure => have := HK1.out; omega
              case rel => exact ⟨(t151), (wrap64 (x30_1 + 1)), (by first | rfl | (simp; done) | (simp [*]; done)), H', ⟨by have := HK1.out; omega⟩, ⟨by (with_reducible repeat (first | apply Kd.R_alloc | apply Kd.R_drewN | apply Kd.R_drew)); exact HO153.out⟩, ⟨by (with_reducible repeat (first | refine blk_drewN ?_ _ | refine blk_drew ?_ | refine blk_alloc ?_ _)); exact BK132.out⟩, ⟨by repeat (first | (with_reducible first | exact HB.out | apply below_alloc | apply pw_below_drewN | apply below_drew1 | refine below_set ?_ GE132.out | refine below_set ?_ GE147.out) | exact HB.out)⟩⟩
            · rw [if_neg c23] at H
              exact absurd H (by simp)
          · rw [if_neg c22] at H
            exact absurd H (by simp)
        · rw [if_neg c21] at H
          have c21b0 : decide (x30_1 < (l0_1.length : Int)) = false := decide_eq_false c21
          clear c21
          replace H := Option.bind_eq_some_iff.mp H
          obtain ⟨t154, A350, H⟩ := H
          replace H : (image_Encode.l1 k1 t154 l0_0 (l0_0.length : Int) 0) = some (r1, r2) := H
          have A35 := Aside0.mk A350
          clear A350
          have H' := Aside0.mk H
          clear H
          have hcz36_0 : wr.cell? ⟨gb132, 0, none⟩ = some (.slice A0_0 l0_0.length c0_0) := (blk_cell BK132.out 0).trans rfl
          have hcz36_1 : wr.cell? ⟨gb132, 1, none⟩ = some (.slice A0_1 l0_1.length c0_1) := (blk_cell BK132.out 1).trans rfl
          have hcz36_2 : wr.cell? ⟨gb132, 2, none⟩ = some (.int .i64 a0_2) := (blk_cell BK132.out 2).trans rfl
          have hcz36_3 : wr.cell? ⟨gb132, 3, none⟩ = some (.int .i64 a0_3) := (blk_cell BK132.out 3).trans rfl
          have hfz36_0 := blk_frozen BK132.out 0
          have hfz36_1 := blk_frozen BK132.out 1
          have hfz36_2 := blk_frozen BK132.out 2
          have hfz36_3 := blk_frozen BK132.out 3
          obtain ⟨Ao37, co37, eo37⟩ := Kd.R_slice HO_4.out
          subst eo37
          go_wp2_with (first | ((with_reducible refine gate_callee (f := 23) rfl ?_); refine goesL_ (some 46) rfl rfl Try.func23 (by kernel_rfl) rfl #[.slice Ao37 x4_1.length co37, .int .i64 (l0_0.length : Int)] rfl (by (try simp only [List.map_toArray, List.map_cons, List.map_nil]); first | done | rfl | (simp only [List.length_drop, List.length_take]; rfl)) ?_; (with_reducible refine (image_put.calls (fun k_ => some k_ = (.slice Ao37 x4_1.length co37 : Value).ownBlock) (.slice Ao37 x4_1.length co37) x4_1 (l0_0.length : Int) t154 w _ ?side1 ?side2 A35.out).mono ?_); (case side1 => repeat (first | (with_reducible first | exact HB.out | apply below_alloc | apply pw_below_drewN | apply below_drew1 | refine below_set ?_ GE132.out) | exact HB.out)); (case side2 => exact Kd.R_tight rfl HO_4.out); rintro e w38 ⟨v155, rfl, ho0, hb, hkp⟩; refine ⟨_, rfl, ?_⟩; have n0_ := Aside0.mk (blk_kept (by (with_reducible repeat (first | refine blk_drewN ?_ _ | refine blk_drew ?_ | refine blk_alloc ?_ _)); exact BK132.out) hkp (fun hs_ => (fun e_ => (Kd.R_ne HO_4.out BK132.out (by decide)) e_) hs_)); have n1_ := Aside0.mk (Kd.R_mono (ok' := fun k_ => True) ho0 (fun k_ hk_ => trivial)); have n2_ := Aside0.mk (hb); clear BK132; clear HB; clear HO_4; have BK132 := n0_; have HO156 := n1_; have HB := n2_; clear n0_ n1_ n2_; (try clear hb); (try clear hkp); (try clear ho0); have hcz39_0 : w38.cell? ⟨gb132, 0, none⟩ = some (.slice A0_0 l0_0.length c0_0) := (blk_cell BK132.out 0).trans rfl; have hcz39_1 : w38.cell? ⟨gb132, 1, none⟩ = some (.slice A0_1 l0_1.length c0_1) := (blk_cell BK132.out 1).trans rfl; have hcz39_2 : w38.cell? ⟨gb132, 2, none⟩ = some (.int .i64 a0_2) := (blk_cell BK132.out 2).trans rfl; have hcz39_3 : w38.cell? ⟨gb132, 3, none⟩ = some (.int .i64 a0_3) := (blk_cell BK132.out 3).trans rfl; have hfz39_0 := blk_frozen BK132.out 0; have hfz39_1 := blk_frozen BK132.out 1; have hfz39_2 := blk_frozen BK132.out 2; have hfz39_3 := blk_frozen BK132.out 3))
          go_loopg [4, 50] k1 (fun kq v4 v50 w' => ∃ (x4_2 : List Int) (x50_2 : Int), v50 = .int .i64 x50_2 ∧ Aside0 (image_Encode.l1 kq x4_2 l0_0 (l0_0.length : Int) x50_2 = some (r1, r2)) ∧ Aside0 (kq ≤ k1) ∧ Aside0 (Kd.R (Kd.int .u8) 5 w' w.heap.size (fun _ => True) v4 x4_2) ∧ Aside0 (w'.heap[gb132]? = some (.cells #[(.slice A0_0 l0_0.length c0_0), (.slice A0_1 l0_1.length c0_1), .int .i64 a0_2, .int .i64 a0_3] 30 (0, 0))) ∧ Aside0 (Below w.heap.size w w'))
          case atStart => exact ⟨(t154), (0), (by first | rfl | (simp; done) | (simp [*]; done)), H', ⟨Nat.le_refl _⟩, ⟨by (with_reducible repeat (first | apply Kd.R_alloc | apply Kd.R_drewN | apply Kd.R_drew)); exact HO156.out⟩, ⟨by (with_reducible repeat (first | refine blk_drewN ?_ _ | refine blk_drew ?_ | refine blk_alloc ?_ _)); exact BK132.out⟩, ⟨by repeat (first | (with_reducible first | exact HB.out | apply below_alloc | apply pw_below_drewN | apply below_drew1 | refine below_set ?_ GE132.out) | exact HB.out)⟩⟩
          case round =>
            clear H'
            try clear c1
            try clear p1
            try clear q1
            try clear hx1
            try clear c2
            try clear p2
            try clear c3
            try clear p6
            try clear c8
            try clear p14
            try clear q14
            try clear hx14
            try clear c16
            try clear c21
            try clear c21b0
            try clear c22
            try clear c22b0
            try clear c23
            try clear c23b0
            try clear c27
            try clear hcz17_0
            try clear hcz17_1
            try clear hcz17_2
            try clear hcz17_3
            try clear hcz20_0
            try clear hcz20_1
            try clear hcz20_2
            try clear hcz20_3
            try clear hcz28_0
            try clear hcz28_1
            try clear hcz28_2
            try clear hcz36_0
            try clear hcz36_1
            try clear hcz36_2
            try clear hcz36_3
            try clear hcz39_0
            try clear hcz39_1
            try clear hcz39_2
            try clear hcz39_3
            try clear hcz8_0
            try clear hcz8_1
            try clear hcz8_2
            try clear hcz8_3
            try clear hfz17_0
            try clear hfz17_1
            try clear hfz17_2
            try clear hfz17_3
            try clear hfz20_0
            try clear hfz20_1
            try clear hfz20_2
            try clear hfz20_3
            try clear hfz28_0
            try clear hfz28_1
            try clear hfz28_2
            try clear hfz36_0
            try clear hfz36_1
            try clear hfz36_2
            try clear hfz36_3
            try clear hfz39_0
            try clear hfz39_1
            try clear hfz39_2
            try clear hfz39_3
            try clear hfz8_0
            try clear hfz8_1
            try clear hfz8_2
            try clear hfz8_3
            try clear hx146_0
            try clear hx146_1
            try clear hx146_2
            try clear p146
            try clear p2
            try clear q146
            obtain ⟨x4_2, x50_2, rfl, HA, HK2, HO_4, BK132, HB⟩ := hrel
            cases gk with
            | zero => exact absurd HA.out (by simp [image_Encode.l1])
            | succ k2 =>
              have H := HA.out
              clear HA
              simp only [image_Encode.l1] at H
              by_cases c40 : x50_2 < (l0_0.length : Int)
              · rw [if_pos c40] at H
                have c40b0 : decide (x50_2 < (l0_0.length : Int)) = true := decide_eq_true c40
                clear c40
                by_cases c41 : 0 ≤ x50_2
                · rw [if_pos c41] at H
                  have c41b0 : decide (0 ≤ x50_2) = true := decide_eq_true c41
                  clear c41
                  by_cases c42 : x50_2 < (l0_0.length : Int)
                  · rw [if_pos c42] at H
                    have c42b0 : decide (x50_2 < (l0_0.length : Int)) = true := decide_eq_true c42
                    clear c42
                    replace H := Option.bind_eq_some_iff.mp H
                    obtain ⟨⟨t159, t162⟩, A430, H⟩ := H
                    replace H : (if t162 = 0 then (if x4_2.length + t159.length < 140737488355328 then (image_Encode.l1 k2 (x4_2 ++ t159) l0_0 (l0_0.length : Int) (wrap64 (x50_2 + 1))) else (none)) else (some (([] : List Int), t162))) = some (r1, r2) := H
                    have A43 := Aside0.mk A430
                    clear A430
                    by_cases c44 : t162 = 0
                    · rw [if_pos c44] at H
                      have c44b0 : (t162 == 0) = true := beq_iff_eq.mpr c44
                      have c44b1 : (t162 != 0) = false := bne_eq_false_iff_eq.mpr c44
                      clear c44
                      by_cases c45 : x4_2.length + t159.length < 140737488355328
                      · rw [if_pos c45] at H
                        have LMc45 := Aside0.mk c45
                        clear c45
                        obtain ⟨y163, hy163⟩ : ∃ y_ : List Int, y_ = (x4_2 ++ t159) := ⟨_, rfl⟩
                        replace H : (image_Encode.l1 k2 y163 l0_0 (l0_0.length : Int) (wrap64 (x50_2 + 1))) = some (r1, r2) := by first | (rw [hy163]; with_reducible exact H) | (have H2_ := (Option.bind_some _ _).symm.trans H; rw [hy163]; with_reducible exact H2_) | (have H2_ := (Option.bind_some _ _).symm.trans H; with_reducible exact H2_) | with_reducible exact H | (rw [hy163]; exact H) | exact H
                        have Ny163 := Aside0.mk hy163
                        clear hy163
                        have H' := Aside0.mk H
                        clear H
                        have p157 : 0 ≤ (x50_2 : Int) := of_decide_eq_true (by first | (with_reducible assumption) | assumption)
                        have q157 : x50_2 < (l0_0.length : Int) := of_decide_eq_true (by first | (with_reducible assumption) | assumption)
                        obtain ⟨ad157, e157, hx157_0, hx157_1, hx157_2, hx157_3, hx157_4, hx157_5⟩ := at_T26 HR0_0.out x50_2 p157 q157
                        cases e157
                        replace hx157_0 := (HB.out.cell (World.block_lt_of_cell? w _ hx157_0)).trans hx157_0
                        replace hx157_1 := (HB.out.cell (World.block_lt_of_cell? w _ hx157_1)).trans hx157_1
                        replace hx157_2 := (HB.out.cell (World.block_lt_of_cell? w _ hx157_2)).trans hx157_2
                        replace hx157_3 := (HB.out.cell (World.block_lt_of_cell? w _ hx157_3)).trans hx157_3
                        replace hx157_4 := (HB.out.cell (World.block_lt_of_cell? w _ hx157_4)).trans hx157_4
                        replace hx157_5 := (HB.out.cell (World.block_lt_of_cell? w _ hx157_5)).trans hx157_5
                        replace p157 := eq_true p157
                        replace q157 := eq_true q157
                        go_wp2_with (first | ((with_reducible refine gate_dst (N := 8) rfl ?_); refine box_event ?hg (N := 8) ?hd (cs := #[.int .i64 0, .int .i64 0, .int .i64 0, .int .i64 0, .int .i64 0, .int .i64 0]) (t := 26) ?hr ?_; (case hd => rfl); (case hg => rfl); (case hr => first | (go_simp; done) | (go_simp; rfl)); intro gb158 hg w46 hbox hb; have n0_ := Aside0.mk (Kd.R_below (by (with_reducible repeat (first | apply Kd.R_alloc | apply Kd.R_drewN | apply Kd.R_drew)); exact HO_4.out) hb); have n1_ := Aside0.mk (blk_below (g := gb132) (o := .cells #[.slice (some ad157) l0_0.length c0_0, .slice A0_1 l0_1.length c0_1, .int .i64 a0_2, .int .i64 a0_3] 30 (0, 0)) (by (with_reducible repeat (first | refine blk_drewN ?_ _ | refine blk_drew ?_ | refine blk_alloc ?_ _)); exact BK132.out) hb); have n2_ := Aside0.mk (below_step (by repeat (first | (with_reducible first | exact HB.out | apply below_alloc | apply pw_below_drewN | apply below_drew1 | refine below_set ?_ GE132.out) | exact HB.out)) hb); have n3_ := Aside0.mk (hbox); have n4_ := Aside0.mk ((by rw [hg]; exact (below_size (by repeat (first | (with_reducible first | exact HB.out | apply below_alloc | apply pw_below_drewN | apply below_drew1 | refine below_set ?_ GE132.out) | exact HB.out))) : w.heap.size ≤ gb158)); have n5_ := Aside0.mk ((by rw [hg]; exact (below_size (by repeat (first | (with_reducible first | exact HB.out | apply below_alloc | apply pw_below_drewN | apply below_drew1 | refine below_set ?_ GE132.out) | exact HB.out))) : w.heap.size ≤ gb158)); have n6_ := Aside0.mk ((by rw [hg]; exact Nat.ne_of_lt (blk_lt (g := gb132) (o := .cells #[.slice (some ad157) l0_0.length c0_0, .slice A0_1 l0_1.length c0_1, .int .i64 a0_2, .int .i64 a0_3] 30 (0, 0)) (by (with_reducible repeat (first | refine blk_drewN ?_ _ | refine blk_drew ?_ | refine blk_alloc ?_ _)); exact BK132.out)) : gb132 ≠ gb158)); have n7_ := Aside0.mk ((by rw [hg]; exact Nat.ne_of_gt (blk_lt (g := gb132) (o := .cells #[.slice (some ad157) l0_0.length c0_0, .slice A0_1 l0_1.length c0_1, .int .i64 a0_2, .int .i64 a0_3] 30 (0, 0)) (by (with_reducible repeat (first | refine blk_drewN ?_ _ | refine blk_drew ?_ | refine blk_alloc ?_ _)); exact BK132.out)) : gb158 ≠ gb132)); clear HO_4; clear BK132; clear HB; have HO_4 := n0_; have BK132 := n1_; have HB := n2_; have BK158 := n3_; have GW158 := n4_; have GE158 := n5_; have NB132_158 := n6_; have NB158_132 := n7_; clear n0_ n1_ n2_ n3_ n4_ n5_ n6_ n7_; clear hb hbox hg; have hnb47 := NB158_132.out; have hnc47 := NB132_158.out; have hcz48_0 : w46.cell? ⟨gb158, 0, none⟩ = some (.int .i64 0) := (blk_cell BK158.out 0).trans rfl; have hcz48_1 : w46.cell? ⟨gb158, 1, none⟩ = some (.int .i64 0) := (blk_cell BK158.out 1).trans rfl; have hcz48_2 : w46.cell? ⟨gb158, 2, none⟩ = some (.int .i64 0) := (blk_cell BK158.out 2).trans rfl; have hcz48_3 : w46.cell? ⟨gb158, 3, none⟩ = some (.int .i64 0) := (blk_cell BK158.out 3).trans rfl; have hcz48_4 : w46.cell? ⟨gb158, 4, none⟩ = some (.int .i64 0) := (blk_cell BK158.out 4).trans rfl; have hcz48_5 : w46.cell? ⟨gb158, 5, none⟩ = some (.int .i64 0) := (blk_cell BK158.out 5).trans rfl; have hfz48_0 := blk_frozen BK158.out 0; have hfz48_1 := blk_frozen BK158.out 1; have hfz48_2 := blk_frozen BK158.out 2; have hfz48_3 := blk_frozen BK158.out 3; have hfz48_4 := blk_frozen BK158.out 4; have hfz48_5 := blk_frozen BK158.out 5) | ((with_reducible refine gate_callee (f := 22) rfl ?_); refine goesL_ (some 56) rfl rfl Try.func22 (by kernel_rfl) rfl #[.agg #[.int .i64 ((rd_T26 l0_0 x50_2).f0), .int .i64 ((rd_T26 l0_0 x50_2).f1), .int .i64 ((rd_T26 l0_0 x50_2).f2), .int .i64 ((rd_T26 l0_0 x50_2).f3), .int .i64 ((rd_T26 l0_0 x50_2).f4), .int .i64 ((rd_T26 l0_0 x50_2).f5)]] rfl (by (try simp only [List.map_toArray, List.map_cons, List.map_nil]); first | done | rfl | (simp only [List.length_drop, List.length_take]; rfl)) ?_; (with_reducible refine (code_Encode.calls k2 ((rd_T26 l0_0 x50_2).f0) ((rd_T26 l0_0 x50_2).f1) ((rd_T26 l0_0 x50_2).f2) ((rd_T26 l0_0 x50_2).f3) ((rd_T26 l0_0 x50_2).f4) ((rd_T26 l0_0 x50_2).f5) t159 t162 _ A43.out).mono ?_); rintro e w49 ⟨v160, rfl, ho0, hb⟩; refine ⟨_, rfl, ?_⟩; have n0_ := Aside0.mk (Kd.R_elder' (by (with_reducible repeat (first | apply Kd.R_alloc | apply Kd.R_drewN | apply Kd.R_drew)); exact (Kd.R_mono (Kd.R_far (p := ⟨gb158, 5, none⟩) (Kd.R_far (p := ⟨gb158, 4, none⟩) (Kd.R_far (p := ⟨gb158, 3, none⟩) (Kd.R_far (p := ⟨gb158, 2, none⟩) (Kd.R_far (p := ⟨gb158, 1, none⟩) (Kd.R_far (p := ⟨gb158, 0, none⟩) (Kd.R_types HO_4.out BK158.out (by decide)) (fun _ hk => hk.2) (.int .i64 ((rd_T26 l0_0 x50_2).f0))) (fun _ hk => hk.2) (.int .i64 ((rd_T26 l0_0 x50_2).f1))) (fun _ hk => hk.2) (.int .i64 ((rd_T26 l0_0 x50_2).f2))) (fun _ hk => hk.2) (.int .i64 ((rd_T26 l0_0 x50_2).f3))) (fun _ hk => hk.2) (.int .i64 ((rd_T26 l0_0 x50_2).f4))) (fun _ hk => hk.2) (.int .i64 ((rd_T26 l0_0 x50_2).f5))) (fun _ h_ => h_.1))) (Kd.R_base ho0) hb); have n1_ := Aside0.mk (Kd.R_lower (Kd.R_new' ho0 (Kd.R_lt (by (with_reducible repeat (first | apply Kd.R_alloc | apply Kd.R_drewN | apply Kd.R_drew)); exact (Kd.R_mono (Kd.R_far (p := ⟨gb158, 5, none⟩) (Kd.R_far (p := ⟨gb158, 4, none⟩) (Kd.R_far (p := ⟨gb158, 3, none⟩) (Kd.R_far (p := ⟨gb158, 2, none⟩) (Kd.R_far (p := ⟨gb158, 1, none⟩) (Kd.R_far (p := ⟨gb158, 0, none⟩) (Kd.R_types HO_4.out BK158.out (by decide)) (fun _ hk => hk.2) (.int .i64 ((rd_T26 l0_0 x50_2).f0))) (fun _ hk => hk.2) (.int .i64 ((rd_T26 l0_0 x50_2).f1))) (fun _ hk => hk.2) (.int .i64 ((rd_T26 l0_0 x50_2).f2))) (fun _ hk => hk.2) (.int .i64 ((rd_T26 l0_0 x50_2).f3))) (fun _ hk => hk.2) (.int .i64 ((rd_T26 l0_0 x50_2).f4))) (fun _ hk => hk.2) (.int .i64 ((rd_T26 l0_0 x50_2).f5))) (fun _ h_ => h_.1))))) (below_size (by repeat (first | (with_reducible first | exact HB.out | apply below_alloc | apply pw_below_drewN | apply below_drew1 | refine below_set ?_ GE132.out | refine below_set ?_ GE158.out) | exact HB.out)))); have n2_ := Aside0.mk (blk_below (g := gb132) (o := .cells #[.slice (some ad157) l0_0.length c0_0, .slice A0_1 l0_1.length c0_1, .int .i64 a0_2, .int .i64 a0_3] 30 (0, 0)) (by (with_reducible repeat (first | refine blk_drewN ?_ _ | refine blk_drew ?_ | refine blk_alloc ?_ _)); refine blk_far ?_ NB132_158.out _; (with_reducible repeat (first | refine blk_drewN ?_ _ | refine blk_drew ?_ | refine blk_alloc ?_ _)); refine blk_far ?_ NB132_158.out _; (with_reducible repeat (first | refine blk_drewN ?_ _ | refine blk_drew ?_ | refine blk_alloc ?_ _)); refine blk_far ?_ NB132_158.out _; (with_reducible repeat (first | refine blk_drewN ?_ _ | refine blk_drew ?_ | refine blk_alloc ?_ _)); refine blk_far ?_ NB132_158.out _; (with_reducible repeat (first | refine blk_drewN ?_ _ | refine blk_drew ?_ | refine blk_alloc ?_ _)); refine blk_far ?_ NB132_158.out _; (with_reducible repeat (first | refine blk_drewN ?_ _ | refine blk_drew ?_ | refine blk_alloc ?_ _)); refine blk_far ?_ NB132_158.out _; (with_reducible repeat (first | refine blk_drewN ?_ _ | refine blk_drew ?_ | refine blk_alloc ?_ _)); exact BK132.out) hb); have n3_ := Aside0.mk (blk_below (g := gb158) (o := .cells #[.int .i64 ((rd_T26 l0_0 x50_2).f0), .int .i64 ((rd_T26 l0_0 x50_2).f1), .int .i64 ((rd_T26 l0_0 x50_2).f2), .int .i64 ((rd_T26 l0_0 x50_2).f3), .int .i64 ((rd_T26 l0_0 x50_2).f4), .int .i64 ((rd_T26 l0_0 x50_2).f5)] 26 (0, 0)) (by (with_reducible repeat (first | refine blk_drewN ?_ _ | refine blk_drew ?_ | refine blk_alloc ?_ _)); refine blk_put (cs := #[.int .i64 ((rd_T26 l0_0 x50_2).f0), .int .i64 ((rd_T26 l0_0 x50_2).f1), .int .i64 ((rd_T26 l0_0 x50_2).f2), .int .i64 ((rd_T26 l0_0 x50_2).f3), .int .i64 ((rd_T26 l0_0 x50_2).f4), .int .i64 0]) ?_ 5 _ rfl; (with_reducible repeat (first | refine blk_drewN ?_ _ | refine blk_drew ?_ | refine blk_alloc ?_ _)); refine blk_put (cs := #[.int .i64 ((rd_T26 l0_0 x50_2).f0), .int .i64 ((rd_T26 l0_0 x50_2).f1), .int .i64 ((rd_T26 l0_0 x50_2).f2), .int .i64 ((rd_T26 l0_0 x50_2).f3), .int .i64 0, .int .i64 0]) ?_ 4 _ rfl; (with_reducible repeat (first | refine blk_drewN ?_ _ | refine blk_drew ?_ | refine blk_alloc ?_ _)); refine blk_put (cs := #[.int .i64 ((rd_T26 l0_0 x50_2).f0), .int .i64 ((rd_T26 l0_0 x50_2).f1), .int .i64 ((rd_T26 l0_0 x50_2).f2), .int .i64 0, .int .i64 0, .int .i64 0]) ?_ 3 _ rfl; (with_reducible repeat (first | refine blk_drewN ?_ _ | refine blk_drew ?_ | refine blk_alloc ?_ _)); refine blk_put (cs := #[.int .i64 ((rd_T26 l0_0 x50_2).f0), .int .i64 ((rd_T26 l0_0 x50_2).f1), .int .i64 0, .int .i64 0, .int .i64 0, .int .i64 0]) ?_ 2 _ rfl; (with_reducible repeat (first | refine blk_drewN ?_ _ | refine blk_drew ?_ | refine blk_alloc ?_ _)); refine blk_put (cs := #[.int .i64 ((rd_T26 l0_0 x50_2).f0), .int .i64 0, .int .i64 0, .int .i64 0, .int .i64 0, .int .i64 0]) ?_ 1 _ rfl; (with_reducible repeat (first | refine blk_drewN ?_ _ | refine blk_drew ?_ | refine blk_alloc ?_ _)); refine blk_put (cs := #[.int .i64 0, .int .i64 0, .int .i64 0, .int .i64 0, .int .i64 0, .int .i64 0]) ?_ 0 _ rfl; (with_reducible repeat (first | refine blk_drewN ?_ _ | refine blk_drew ?_ | refine blk_alloc ?_ _)); exact BK158.out) hb); have n4_ := Aside0.mk (below_step (by repeat (first | (with_reducible first | exact HB.out | apply below_alloc | apply pw_below_drewN | apply below_drew1 | refine below_set ?_ GE132.out | refine below_set ?_ GE158.out) | exact HB.out)) hb); clear HO_4; clear BK132; clear BK158; clear HB; have HO_4 := n0_; have HO161 := n1_; have BK132 := n2_; have BK158 := n3_; have HB := n4_; clear n0_ n1_ n2_ n3_ n4_; (try clear hb); (try clear hb2); (try clear hk); (try clear hi); (try clear ho0); obtain ⟨Ao51, co51, eo51⟩ := Kd.R_slice HO161.out; subst eo51) | ((with_reducible refine gate_builtin (b := .append) (xs := #[.tmp 62, .tmp 63]) rfl ?_); at_builtin; refine Kd.R_append_rows (Kd.int .u8) (w0 := w) w.heap.size rfl (.tmp 62) (.tmp 63) 41 5 (.int .u8 0) 1 rfl Try.underlying41 info5 rfl (by decide) (by omega) u4 x4_2 t159 _ _ _ (fun k_ => some k_ ≠ (.slice Ao51 t159.length co51 : Value).ownBlock) (fun _ => False) rfl rfl ?aO ?aR (fun _ _ h => h) (fun _ h => h.elim) ?aF ?aB ?aS ?aL ?_; (case aR => repeat (first | exact (Kd.R_reads' HO161.out).2.2 | (with_reducible refine Kd.C_alloc ?_ _) | (with_reducible refine Kd.C_drewN ?_ _) | (with_reducible refine Kd.C_drew ?_))); (case aB => exact (by repeat (first | (with_reducible first | exact HB.out | apply below_alloc | apply pw_below_drewN | apply below_drew1 | refine below_set ?_ GE132.out | refine below_set ?_ GE158.out) | exact HB.out))); (case aF => exact (fun k_ hk => Kd.fresh' (Kd.R_lt (by (with_reducible repeat (first | apply Kd.R_alloc | apply Kd.R_drewN | apply Kd.R_drew)); exact HO161.out)) k_ hk)); (case aO => exact (by (with_reducible repeat (first | apply Kd.R_alloc | apply Kd.R_drewN | apply Kd.R_drew)); exact Kd.R_mono HO_4.out (fun _ hk => hk.2))); (case aS => exact (below_size (by repeat (first | (with_reducible first | exact HB.out | apply below_alloc | apply pw_below_drewN | apply below_drew1 | refine below_set ?_ GE132.out | refine below_set ?_ GE158.out) | exact HB.out)))); (case aL => have := LMc45.out; omega); intro v164 w50 ho hb hg hat; rw [← Ny163.out] at ho; have n0_ := Aside0.mk (blk_grown (g := gb132) (o := .cells #[.slice (some ad157) l0_0.length c0_0, .slice A0_1 l0_1.length c0_1, .int .i64 a0_2, .int .i64 a0_3] 30 (0, 0)) (by (with_reducible repeat (first | refine blk_drewN ?_ _ | refine blk_drew ?_ | refine blk_alloc ?_ _)); exact BK132.out) hg (Kd.R_ne HO_4.out BK132.out (by decide))); have n1_ := Aside0.mk (blk_grown (g := gb158) (o := .cells #[.int .i64 ((rd_T26 l0_0 x50_2).f0), .int .i64 ((rd_T26 l0_0 x50_2).f1), .int .i64 ((rd_T26 l0_0 x50_2).f2), .int .i64 ((rd_T26 l0_0 x50_2).f3), .int .i64 ((rd_T26 l0_0 x50_2).f4), .int .i64 ((rd_T26 l0_0 x50_2).f5)] 26 (0, 0)) (by (with_reducible repeat (first | refine blk_drewN ?_ _ | refine blk_drew ?_ | refine blk_alloc ?_ _)); exact BK158.out) hg (Kd.R_ne HO_4.out BK158.out (by decide))); have n2_ := Aside0.mk (Kd.R_after (ok := (fun _ => True)) (by (with_reducible repeat (first | apply Kd.R_alloc | apply Kd.R_drewN | apply Kd.R_drew)); exact HO161.out) hg hat); have n3_ := Aside0.mk (hb); have n4_ := Aside0.mk (ho); clear BK132; clear BK158; clear HO161; clear HB; clear HO_4; have BK132 := n0_; have BK158 := n1_; have HO161 := n2_; have HB := n3_; have HO165 := n4_; clear n0_ n1_ n2_ n3_ n4_; clear ho hb hg hat))
                        go_roundg k2
                        case measure => have := HK1.out; have := HK2.out; omega
                        case rel => exact ⟨(y163), (wrap64 (x50_2 + 1)), (by first | rfl | (simp; done) | (simp [*]; done)), H', ⟨by have := HK1.out; have := HK2.out; omega⟩, ⟨by (with_reducible repeat (first | apply Kd.R_alloc | apply Kd.R_drewN | apply Kd.R_drew)); exact Kd.R_mono HO165.out (fun _ hk => trivial)⟩, ⟨by (with_reducible repeat (first | refine blk_drewN ?_ _ | refine blk_drew ?_ | refine blk_alloc ?_ _)); exact BK132.out⟩, ⟨by repeat (first | (with_reducible first | exact HB.out | apply below_alloc | apply pw_below_drewN | apply below_drew1 | refine below_set ?_ GE132.out | refine below_set ?_ GE158.out) | exact HB.out)⟩⟩
                      · rw [if_neg c45] at H
                        exact absurd H (by simp)
                    · rw [if_neg c44] at H
                      have c44b0 : (t162 == 0) = false := beq_eq_false_iff_ne.mpr c44
                      have c44b1 : (t162 != 0) = true := bne_iff_ne.mpr c44
                      simp only [Option.some.injEq, Prod.mk.injEq] at H
                      obtain ⟨rfl, rfl⟩ := H
                      have p157 : 0 ≤ (x50_2 : Int) := of_decide_eq_true (by first | (with_reducible assumption) | assumption)
                      have q157 : x50_2 < (l0_0.length : Int) := of_decide_eq_true (by first | (with_reducible assumption) | assumption)
                      obtain ⟨ad157, e157, hx157_0, hx157_1, hx157_2, hx157_3, hx157_4, hx157_5⟩ := at_T26 HR0_0.out x50_2 p157 q157
                      cases e157
                      replace hx157_0 := (HB.out.cell (World.block_lt_of_cell? w _ hx157_0)).trans hx157_0
                      replace hx157_1 := (HB.out.cell (World.block_lt_of_cell? w _ hx157_1)).trans hx157_1
                      replace hx157_2 := (HB.out.cell (World.block_lt_of_cell? w _ hx157_2)).trans hx157_2
                      replace hx157_3 := (HB.out.cell (World.block_lt_of_cell? w _ hx157_3)).trans hx157_3
                      replace hx157_4 := (HB.out.cell (World.block_lt_of_cell? w _ hx157_4)).trans hx157_4
                      replace hx157_5 := (HB.out.cell (World.block_lt_of_cell? w _ hx157_5)).trans hx157_5
                      replace p157 := eq_true p157
                      replace q157 := eq_true q157
                      go_wp2_with (first | ((with_reducible refine gate_dst (N := 8) rfl ?_); refine box_event ?hg (N := 8) ?hd (cs := #[.int .i64 0, .int .i64 0, .int .i64 0, .int .i64 0, .int .i64 0, .int .i64 0]) (t := 26) ?hr ?_; (case hd => rfl); (case hg => rfl); (case hr => first | (go_simp; done) | (go_simp; rfl)); intro gb158 hg w52 hbox hb; have n0_ := Aside0.mk (Kd.R_below (by (with_reducible repeat (first | apply Kd.R_alloc | apply Kd.R_drewN | apply Kd.R_drew)); exact HO_4.out) hb); have n1_ := Aside0.mk (blk_below (g := gb132) (o := .cells #[.slice (some ad157) l0_0.length c0_0, .slice A0_1 l0_1.length c0_1, .int .i64 a0_2, .int .i64 a0_3] 30 (0, 0)) (by (with_reducible repeat (first | refine blk_drewN ?_ _ | refine blk_drew ?_ | refine blk_alloc ?_ _)); exact BK132.out) hb); have n2_ := Aside0.mk (below_step (by repeat (first | (with_reducible first | exact HB.out | apply below_alloc | apply pw_below_drewN | apply below_drew1 | refine below_set ?_ GE132.out) | exact HB.out)) hb); have n3_ := Aside0.mk (hbox); have n4_ := Aside0.mk ((by rw [hg]; exact (below_size (by repeat (first | (with_reducible first | exact HB.out | apply below_alloc | apply pw_below_drewN | apply below_drew1 | refine below_set ?_ GE132.out) | exact HB.out))) : w.heap.size ≤ gb158)); have n5_ := Aside0.mk ((by rw [hg]; exact (below_size (by repeat (first | (with_reducible first | exact HB.out | apply below_alloc | apply pw_below_drewN | apply below_drew1 | refine below_set ?_ GE132.out) | exact HB.out))) : w.heap.size ≤ gb158)); have n6_ := Aside0.mk ((by rw [hg]; exact Nat.ne_of_lt (blk_lt (g := gb132) (o := .cells #[.slice (some ad157) l0_0.length c0_0, .slice A0_1 l0_1.length c0_1, .int .i64 a0_2, .int .i64 a0_3] 30 (0, 0)) (by (with_reducible repeat (first | refine blk_drewN ?_ _ | refine blk_drew ?_ | refine blk_alloc ?_ _)); exact BK132.out)) : gb132 ≠ gb158)); have n7_ := Aside0.mk ((by rw [hg]; exact Nat.ne_of_gt (blk_lt (g := gb132) (o := .cells #[.slice (some ad157) l0_0.length c0_0, .slice A0_1 l0_1.length c0_1, .int .i64 a0_2, .int .i64 a0_3] 30 (0, 0)) (by (with_reducible repeat (first | refine blk_drewN ?_ _ | refine blk_drew ?_ | refine blk_alloc ?_ _)); exact BK132.out)) : gb158 ≠ gb132)); clear HO_4; clear BK132; clear HB; have HO_4 := n0_; have BK132 := n1_; have HB := n2_; have BK158 := n3_; have GW158 := n4_; have GE158 := n5_; have NB132_158 := n6_; have NB158_132 := n7_; clear n0_ n1_ n2_ n3_ n4_ n5_ n6_ n7_; clear hb hbox hg; have hnb53 := NB158_132.out; have hnc53 := NB132_158.out; have hcz54_0 : w52.cell? ⟨gb158, 0, none⟩ = some (.int .i64 0) := (blk_cell BK158.out 0).trans rfl; have hcz54_1 : w52.cell? ⟨gb158, 1, none⟩ = some (.int .i64 0) := (blk_cell BK158.out 1).trans rfl; have hcz54_2 : w52.cell? ⟨gb158, 2, none⟩ = some (.int .i64 0) := (blk_cell BK158.out 2).trans rfl; have hcz54_3 : w52.cell? ⟨gb158, 3, none⟩ = some (.int .i64 0) := (blk_cell BK158.out 3).trans rfl; have hcz54_4 : w52.cell? ⟨gb158, 4, none⟩ = some (.int .i64 0) := (blk_cell BK158.out 4).trans rfl; have hcz54_5 : w52.cell? ⟨gb158, 5, none⟩ = some (.int .i64 0) := (blk_cell BK158.out 5).trans rfl; have hfz54_0 := blk_frozen BK158.out 0; have hfz54_1 := blk_frozen BK158.out 1; have hfz54_2 := blk_frozen BK158.out 2; have hfz54_3 := blk_frozen BK158.out 3; have hfz54_4 := blk_frozen BK158.out 4; have hfz54_5 := blk_frozen BK158.out 5) | ((with_reducible refine gate_callee (f := 22) rfl ?_); refine goesL_ (some 56) rfl rfl Try.func22 (by kernel_rfl) rfl #[.agg #[.int .i64 ((rd_T26 l0_0 x50_2).f0), .int .i64 ((rd_T26 l0_0 x50_2).f1), .int .i64 ((rd_T26 l0_0 x50_2).f2), .int .i64 ((rd_T26 l0_0 x50_2).f3), .int .i64 ((rd_T26 l0_0 x50_2).f4), .int .i64 ((rd_T26 l0_0 x50_2).f5)]] rfl (by (try simp only [List.map_toArray, List.map_cons, List.map_nil]); first | done | rfl | (simp only [List.length_drop, List.length_take]; rfl)) ?_; (with_reducible refine (code_Encode.calls k2 ((rd_T26 l0_0 x50_2).f0) ((rd_T26 l0_0 x50_2).f1) ((rd_T26 l0_0 x50_2).f2) ((rd_T26 l0_0 x50_2).f3) ((rd_T26 l0_0 x50_2).f4) ((rd_T26 l0_0 x50_2).f5) t159 t162 _ A43.out).mono ?_); rintro e w55 ⟨v160, rfl, ho0, hb⟩; refine ⟨_, rfl, ?_⟩; have n0_ := Aside0.mk (Kd.R_elder' (by (with_reducible repeat (first | apply Kd.R_alloc | apply Kd.R_drewN | apply Kd.R_drew)); exact (Kd.R_mono (Kd.R_far (p := ⟨gb158, 5, none⟩) (Kd.R_far (p := ⟨gb158, 4, none⟩) (Kd.R_far (p := ⟨gb158, 3, none⟩) (Kd.R_far (p := ⟨gb158, 2, none⟩) (Kd.R_far (p := ⟨gb158, 1, none⟩) (Kd.R_far (p := ⟨gb158, 0, none⟩) (Kd.R_types HO_4.out BK158.out (by decide)) (fun _ hk => hk.2) (.int .i64 ((rd_T26 l0_0 x50_2).f0))) (fun _ hk => hk.2) (.int .i64 ((rd_T26 l0_0 x50_2).f1))) (fun _ hk => hk.2) (.int .i64 ((rd_T26 l0_0 x50_2).f2))) (fun _ hk => hk.2) (.int .i64 ((rd_T26 l0_0 x50_2).f3))) (fun _ hk => hk.2) (.int .i64 ((rd_T26 l0_0 x50_2).f4))) (fun _ hk => hk.2) (.int .i64 ((rd_T26 l0_0 x50_2).f5))) (fun _ h_ => h_.1))) (Kd.R_base ho0) hb); have n1_ := Aside0.mk (Kd.R_lower (Kd.R_new' ho0 (Kd.R_lt (by (with_reducible repeat (first | apply Kd.R_alloc | apply Kd.R_drewN | apply Kd.R_drew)); exact (Kd.R_mono (Kd.R_far (p := ⟨gb158, 5, none⟩) (Kd.R_far (p := ⟨gb158, 4, none⟩) (Kd.R_far (p := ⟨gb158, 3, none⟩) (Kd.R_far (p := ⟨gb158, 2, none⟩) (Kd.R_far (p := ⟨gb158, 1, none⟩) (Kd.R_far (p := ⟨gb158, 0, none⟩) (Kd.R_types HO_4.out BK158.out (by decide)) (fun _ hk => hk.2) (.int .i64 ((rd_T26 l0_0 x50_2).f0))) (fun _ hk => hk.2) (.int .i64 ((rd_T26 l0_0 x50_2).f1))) (fun _ hk => hk.2) (.int .i64 ((rd_T26 l0_0 x50_2).f2))) (fun _ hk => hk.2) (.int .i64 ((rd_T26 l0_0 x50_2).f3))) (fun _ hk => hk.2) (.int .i64 ((rd_T26 l0_0 x50_2).f4))) (fun _ hk => hk.2) (.int .i64 ((rd_T26 l0_0 x50_2).f5))) (fun _ h_ => h_.1))))) (below_size (by repeat (first | (with_reducible first | exact HB.out | apply below_alloc | apply pw_below_drewN | apply below_drew1 | refine below_set ?_ GE132.out | refine below_set ?_ GE158.out) | exact HB.out)))); have n2_ := Aside0.mk (blk_below (g := gb132) (o := .cells #[.slice (some ad157) l0_0.length c0_0, .slice A0_1 l0_1.length c0_1, .int .i64 a0_2, .int .i64 a0_3] 30 (0, 0)) (by (with_reducible repeat (first | refine blk_drewN ?_ _ | refine blk_drew ?_ | refine blk_alloc ?_ _)); refine blk_far ?_ NB132_158.out _; (with_reducible repeat (first | refine blk_drewN ?_ _ | refine blk_drew ?_ | refine blk_alloc ?_ _)); refine blk_far ?_ NB132_158.out _; (with_reducible repeat (first | refine blk_drewN ?_ _ | refine blk_drew ?_ | refine blk_alloc ?_ _)); refine blk_far ?_ NB132_158.out _; (with_reducible repeat (first | refine blk_drewN ?_ _ | refine blk_drew ?_ | refine blk_alloc ?_ _)); refine blk_far ?_ NB132_158.out _; (with_reducible repeat (first | refine blk_drewN ?_ _ | refine blk_drew ?_ | refine blk_alloc ?_ _)); refine blk_far ?_ NB132_158.out _; (with_reducible repeat (first | refine blk_drewN ?_ _ | refine blk_drew ?_ | refine blk_alloc ?_ _)); refine blk_far ?_ NB132_158.out _; (with_reducible repeat (first | refine blk_drewN ?_ _ | refine blk_drew ?_ | refine blk_alloc ?_ _)); exact BK132.out) hb); have n3_ := Aside0.mk (blk_below (g := gb158) (o := .cells #[.int .i64 ((rd_T26 l0_0 x50_2).f0), .int .i64 ((rd_T26 l0_0 x50_2).f1), .int .i64 ((rd_T26 l0_0 x50_2).f2), .int .i64 ((rd_T26 l0_0 x50_2).f3), .int .i64 ((rd_T26 l0_0 x50_2).f4), .int .i64 ((rd_T26 l0_0 x50_2).f5)] 26 (0, 0)) (by (with_reducible repeat (first | refine blk_drewN ?_ _ | refine blk_drew ?_ | refine blk_alloc ?_ _)); refine blk_put (cs := #[.int .i64 ((rd_T26 l0_0 x50_2).f0), .int .i64 ((rd_T26 l0_0 x50_2).f1), .int .i64 ((rd_T26 l0_0 x50_2).f2), .int .i64 ((rd_T26 l0_0 x50_2).f3), .int .i64 ((rd_T26 l0_0 x50_2).f4), .int .i64 0]) ?_ 5 _ rfl; (with_reducible repeat (first | refine blk_drewN ?_ _ | refine blk_drew ?_ | refine blk_alloc ?_ _)); refine blk_put (cs := #[.int .i64 ((rd_T26 l0_0 x50_2).f0), .int .i64 ((rd_T26 l0_0 x50_2).f1), .int .i64 ((rd_T26 l0_0 x50_2).f2), .int .i64 ((rd_T26 l0_0 x50_2).f3), .int .i64 0, .int .i64 0]) ?_ 4 _ rfl; (with_reducible repeat (first | refine blk_drewN ?_ _ | refine blk_drew ?_ | refine blk_alloc ?_ _)); refine blk_put (cs := #[.int .i64 ((rd_T26 l0_0 x50_2).f0), .int .i64 ((rd_T26 l0_0 x50_2).f1), .int .i64 ((rd_T26 l0_0 x50_2).f2), .int .i64 0, .int .i64 0, .int .i64 0]) ?_ 3 _ rfl; (with_reducible repeat (first | refine blk_drewN ?_ _ | refine blk_drew ?_ | refine blk_alloc ?_ _)); refine blk_put (cs := #[.int .i64 ((rd_T26 l0_0 x50_2).f0), .int .i64 ((rd_T26 l0_0 x50_2).f1), .int .i64 0, .int .i64 0, .int .i64 0, .int .i64 0]) ?_ 2 _ rfl; (with_reducible repeat (first | refine blk_drewN ?_ _ | refine blk_drew ?_ | refine blk_alloc ?_ _)); refine blk_put (cs := #[.int .i64 ((rd_T26 l0_0 x50_2).f0), .int .i64 0, .int .i64 0, .int .i64 0, .int .i64 0, .int .i64 0]) ?_ 1 _ rfl; (with_reducible repeat (first | refine blk_drewN ?_ _ | refine blk_drew ?_ | refine blk_alloc ?_ _)); refine blk_put (cs := #[.int .i64 0, .int .i64 0, .int .i64 0, .int .i64 0, .int .i64 0, .int .i64 0]) ?_ 0 _ rfl; (with_reducible repeat (first | refine blk_drewN ?_ _ | refine blk_drew ?_ | refine blk_alloc ?_ _)); exact BK158.out) hb); have n4_ := Aside0.mk (below_step (by repeat (first | (with_reducible first | exact HB.out | apply below_alloc | apply pw_below_drewN | apply below_drew1 | refine below_set ?_ GE132.out | refine below_set ?_ GE158.out) | exact HB.out)) hb); clear HO_4; clear BK132; clear BK158; clear HB; have HO_4 := n0_; have HO161 := n1_; have BK132 := n2_; have BK158 := n3_; have HB := n4_; clear n0_ n1_ n2_ n3_ n4_; (try clear hb); (try clear hb2); (try clear hk); (try clear hi); (try clear ho0)))
                      go_ret2
                      exact ⟨_, by first | rfl | (simp [errW_none, errW_some] <;> rfl) | (simp [*, errW_none, errW_some] <;> rfl), by first | exact Kd.R_nil _ _ _ _ _ | exact Kd.N_nil _ _ _ _ _ | exact Kd.V_nil _ _ _ _ _ | exact Kd.Q_nil _ _ _ _ _ | exact Kd.S_nil _ _ _ _ _, by repeat (first | (with_reducible first | exact HB.out | apply below_alloc | apply pw_below_drewN | apply below_drew1 | refine below_set ?_ GE132.out | refine below_set ?_ GE158.out) | exact HB.out)⟩
                  · rw [if_neg c42] at H
                    exact absurd H (by simp)
                · rw [if_neg c41] at H
                  exact absurd H (by simp)
              · rw [if_neg c40] at H
                have c40b0 : decide (x50_2 < (l0_0.length : Int)) = false := decide_eq_false c40
                clear c40
                simp only [Option.some.injEq, Prod.mk.injEq] at H
                obtain ⟨rfl, rfl⟩ := H
                go_wp2
                go_ret2
                exact ⟨_, by first | rfl | (simp [errW_none, errW_some] <;> rfl) | (simp [*, errW_none, errW_some] <;> rfl), by (with_reducible repeat (first | apply Kd.R_alloc | apply Kd.R_drewN | apply Kd.R_drew)); exact HO_4.out, by repeat (first | (with_reducible first | exact HB.out | apply below_alloc | apply pw_below_drewN | apply below_drew1 | refine below_set ?_ GE132.out) | exact HB.out)⟩
  · replace c3 := Bool.eq_false_iff.mpr c3
    subst c3
    have H1 : (some (([] : List Int), 1)) = some (r1, r2) := by rw [if_neg (show ¬ (false = true) by decide)] at H; exact H
    clear H
    have H := H1
    clear H1
    simp only [Option.some.injEq, Prod.mk.injEq] at H
    obtain ⟨rfl, rfl⟩ := H
    go_enter Try.func16, Try.ntmps16
    go_wp2_with (first | ((with_reducible refine gate_dst (N := 1) rfl ?_); refine box_event ?hg (N := 1) ?hd (cs := #[.slice A0_0 l0_0.length c0_0, .slice A0_1 l0_1.length c0_1, .int .i64 a0_2, .int .i64 a0_3]) (t := 30) ?hr ?_; (case hd => rfl); (case hg => rfl); (case hr => first | (go_simp; done) | (go_simp; rfl)); intro gb132 hg w56 hbox hb; have n0_ := Aside0.mk (below_step (by repeat (first | (with_reducible first | exact HB.out | apply below_alloc | apply pw_below_drewN | apply below_drew1) | exact HB.out)) hb); have n1_ := Aside0.mk (hbox); have n2_ := Aside0.mk ((by rw [hg]; exact (below_size (by repeat (first | (with_reducible first | exact HB.out | apply below_alloc | apply pw_below_drewN | apply below_drew1) | exact HB.out))) : w.heap.size ≤ gb132)); have n3_ := Aside0.mk ((by rw [hg]; exact (below_size (by repeat (first | (with_reducible first | exact HB.out | apply below_alloc | apply pw_below_drewN | apply below_drew1) | exact HB.out))) : w.heap.size ≤ gb132)); clear HB; have HB := n0_; have BK132 := n1_; have GW132 := n2_; have GE132 := n3_; clear n0_ n1_ n2_ n3_; clear hb hbox hg; have hcz57_0 : w56.cell? ⟨gb132, 0, none⟩ = some (.slice A0_0 l0_0.length c0_0) := (blk_cell BK132.out 0).trans rfl; have hcz57_1 : w56.cell? ⟨gb132, 1, none⟩ = some (.slice A0_1 l0_1.length c0_1) := (blk_cell BK132.out 1).trans rfl; have hcz57_2 : w56.cell? ⟨gb132, 2, none⟩ = some (.int .i64 a0_2) := (blk_cell BK132.out 2).trans rfl; have hcz57_3 : w56.cell? ⟨gb132, 3, none⟩ = some (.int .i64 a0_3) := (blk_cell BK132.out 3).trans rfl; have hfz57_0 := blk_frozen BK132.out 0; have hfz57_1 := blk_frozen BK132.out 1; have hfz57_2 := blk_frozen BK132.out 2; have hfz57_3 := blk_frozen BK132.out 3) | ((with_reducible refine gate_callee (f := 8) rfl ?_); refine goesL_ (some 12) rfl rfl Try.func8 (by kernel_rfl) rfl #[.agg #[.slice A0_0 l0_0.length c0_0, .slice A0_1 l0_1.length c0_1, .int .i64 a0_2, .int .i64 a0_3]] rfl (by (try simp only [List.map_toArray, List.map_cons, List.map_nil]); first | done | rfl | (simp only [List.length_drop, List.length_take]; rfl)) ?_; (with_reducible refine (image_Image_Right.calls k _ _ l0_0 _ _ l0_1 a0_2 a0_3 false _ ?side1 ?side2 ?side3 ?side4 A2.out).mono ?_); (case side1 => repeat (first | exact (Kd.C_below HR0_0.out HB.out) | (with_reducible refine Kd.C_alloc ?_ _) | (with_reducible refine Kd.C_drewN ?_ _) | (with_reducible refine Kd.C_drew ?_))); (case side2 => exact HC0_0.out); (case side3 => repeat (first | exact (Kd.C_below HR0_1.out HB.out) | (with_reducible refine Kd.C_alloc ?_ _) | (with_reducible refine Kd.C_drewN ?_ _) | (with_reducible refine Kd.C_drew ?_))); (case side4 => exact HC0_1.out); rintro e w58 ⟨rfl, hb⟩; refine ⟨_, rfl, ?_⟩; have n0_ := Aside0.mk (blk_below (g := gb132) (o := .cells #[.slice A0_0 l0_0.length c0_0, .slice A0_1 l0_1.length c0_1, .int .i64 a0_2, .int .i64 a0_3] 30 (0, 0)) (by (with_reducible repeat (first | refine blk_drewN ?_ _ | refine blk_drew ?_ | refine blk_alloc ?_ _)); exact BK132.out) hb); have n1_ := Aside0.mk (below_step (by repeat (first | (with_reducible first | exact HB.out | apply below_alloc | apply pw_below_drewN | apply below_drew1 | refine below_set ?_ GE132.out) | exact HB.out)) hb); clear BK132; clear HB; have BK132 := n0_; have HB := n1_; clear n0_ n1_; (try clear hb); (try clear hb2); (try clear hk); (try clear hi)))
    go_ret2
    exact ⟨_, by first | rfl | (simp [errW_none, errW_some] <;> rfl) | (simp [*, errW_none, errW_some] <;> rfl), by first | exact Kd.R_nil _ _ _ _ _ | exact Kd.N_nil _ _ _ _ _ | exact Kd.V_nil _ _ _ _ _ | exact Kd.Q_nil _ _ _ _ _ | exact Kd.S_nil _ _ _ _ _, by repeat (first | (with_reducible first | exact HB.out | apply below_alloc | apply pw_below_drewN | apply below_drew1 | refine below_set ?_ GE132.out) | exact HB.out)⟩


end Go.Proofs.Yteabbcnoamhofaa.B
