/- Out of the kit's print of this seat's functions, put together by a program of mine. -/
import Derived.Test.YtkgoljbimblkhaaBx1
namespace Go.Proofs.Ytkgoljbimblkhaa.B
open Go.RowKit Go.Proofs.YtkgoljbimblkhaaW.PrintWords Go.Proofs.YtkgoljbimblkhaaW.PrintLast Go.Proofs.YtkgoljbimblkhaaW.PrintMore
attribute [local go_sem] max2_int min2_int max_two min_two max_three min_three max_four min_four   -- for this text's walks alone
set_option linter.unusedVariables false
set_option linter.unusedSimpArgs false

attribute [local go_sem high] eqA66
/-! ### word_Op_Divides: function 34 -/
def word_Op_Divides.f (a0 : Int) : Option (Bool) := if a0 = 4 then (some true) else (some (a0 == 5))
set_option maxHeartbeats 8000000 in
set_option maxRecDepth 100000 in
theorem word_Op_Divides.calls (a0 : Int) (r : Bool) (w : World) (h : word_Op_Divides.f a0 = some r) :
    Calls Try.prog 34 #[.int .i64 a0] w fun e w' => e = .returned (.bool r) ∧ Drawn0 w w' := by
  have H : (if a0 = 4 then (some true) else (some (a0 == 5))) = some r := h
  clear h
  by_cases c2 : a0 = 4
  · rw [if_pos c2] at H
    have c2b0 : (a0 == 4) = true := beq_iff_eq.mpr c2
    have c2b1 : (a0 != 4) = false := bne_eq_false_iff_eq.mpr c2
    clear c2
    obtain rfl := Option.some.inj H
    go_enter Try.func34, Try.ntmps34
    go_wp2
    go_ret
    exact ⟨by first | rfl | (simp; done) | (simp [*]; done), by repeat (first | exact Drawn0.refl _ | apply Drawn0.step)⟩
  · rw [if_neg c2] at H
    have c2b0 : (a0 == 4) = false := beq_eq_false_iff_ne.mpr c2
    have c2b1 : (a0 != 4) = true := bne_iff_ne.mpr c2
    obtain rfl := Option.some.inj H
    go_enter Try.func34, Try.ntmps34
    go_wp2
    go_ret
    exact ⟨by first | rfl | (simp; done) | (simp [*]; done), by repeat (first | exact Drawn0.refl _ | apply Drawn0.step)⟩

/-! ### word_Bool: function 37 -/
def word_Bool.f (a0 : Bool) : Option (Int) := if a0 = true then (some 1) else (some 0)
set_option maxHeartbeats 8000000 in
set_option maxRecDepth 100000 in
theorem word_Bool.calls (a0 : Bool) (r : Int) (w : World) (h : word_Bool.f a0 = some r) :
    Calls Try.prog 37 #[.bool a0] w fun e w' => e = .returned (.int .i64 r) ∧ Drawn0 w w' := by
  have H : (if a0 = true then (some 1) else (some 0)) = some r := h
  clear h
  by_cases c2 : a0 = true
  · subst c2
    have H1 : (some 1) = some r := by rw [if_pos rfl] at H; exact H
    clear H
    have H := H1
    clear H1
    obtain rfl := Option.some.inj H
    go_enter Try.func37, Try.ntmps37
    go_wp2
    go_ret
    exact ⟨by first | rfl | (simp; done) | (simp [*]; done), by repeat (first | exact Drawn0.refl _ | apply Drawn0.step)⟩
  · replace c2 := Bool.eq_false_iff.mpr c2
    subst c2
    have H1 : (some 0) = some r := by rw [if_neg (show ¬ (false = true) by decide)] at H; exact H
    clear H
    have H := H1
    clear H1
    obtain rfl := Option.some.inj H
    go_enter Try.func37, Try.ntmps37
    go_wp2
    go_ret
    exact ⟨by first | rfl | (simp; done) | (simp [*]; done), by repeat (first | exact Drawn0.refl _ | apply Drawn0.step)⟩

/-! ### word_divide: function 42 -/
def word_divide.j0 : Nat → Int → Int → Int → Bool → Option (Int × Bool)
  | 0, _, _, _, _ => none
  | k + 1, x0, x1, x2, x11 => if x11 = true then (some (wrap64 (-x1), true)) else (if x2 = (-1) then (some (0, true)) else (if x0 = 4 then (if x2 = 0 then (none) else (some (wrap64 (Int.tdiv x1 x2), true))) else (if x2 = 0 then (none) else (some (Int.tmod x1 x2, true)))))
def word_divide.f (k : Nat) (a0 : Int) (a1 : Int) (a2 : Int) : Option (Int × Bool) := if a2 = 0 then (some (0, false)) else (if a2 = (-1) then (word_divide.j0 k a0 a1 a2 (a0 == 4)) else (word_divide.j0 k a0 a1 a2 false))
theorem word_divide.mono_l : ∀ k, (∀ y0 y1 y2 y3, LeO (word_divide.j0 k y0 y1 y2 y3) (word_divide.j0 (k + 1) y0 y1 y2 y3))
  | 0 => fun _ _ _ _ r h => by simp [word_divide.j0] at h
  | k + 1 => by
    have ih0 := word_divide.mono_l k
    · intro y0 y1 y2 y3
      unfold word_divide.j0
      repeat' first
      | (with_reducible exact ih0 _ _ _ _)
      | (with_reducible exact LeO.refl _)
      | (with_reducible exact LeO.none _)
      | (with_reducible refine LeO.ite ?_ ?_)
      | (with_reducible refine LeO.bind ?_ (fun _ => ?_))
      | exact ih0 _ _ _ _
      | exact LeO.none _
      | refine LeO.ite ?_ ?_
      | refine LeO.bind ?_ (fun _ => ?_)
theorem word_divide.mono : ∀ a0 a1 a2 k, LeO (word_divide.f k a0 a1 a2) (word_divide.f (k + 1) a0 a1 a2) := by
  intro a0 a1 a2 k
  have ih0 := word_divide.mono_l k
  unfold word_divide.f
  repeat' first
      | (with_reducible exact ih0 _ _ _ _)
      | (with_reducible exact LeO.refl _)
      | (with_reducible exact LeO.none _)
      | (with_reducible refine LeO.ite ?_ ?_)
      | (with_reducible refine LeO.bind ?_ (fun _ => ?_))
      | exact ih0 _ _ _ _
      | exact LeO.none _
      | refine LeO.ite ?_ ?_
      | refine LeO.bind ?_ (fun _ => ?_)
set_option maxHeartbeats 8000000 in
set_option maxRecDepth 100000 in
theorem word_divide.calls (k : Nat) (a0 : Int) (a1 : Int) (a2 : Int) (r1 : Int) (r2 : Bool) (w : World) (h : word_divide.f k a0 a1 a2 = some (r1, r2)) :
    Calls Try.prog 42 #[.int .i64 a0, .int .i64 a1, .int .i64 a2] w fun e w' => e = .returned (.tuple #[.int .i64 r1, .bool r2]) ∧ Drawn0 w w' := by
  have H : (if a2 = 0 then (some (0, false)) else (if a2 = (-1) then (word_divide.j0 k a0 a1 a2 (a0 == 4)) else (word_divide.j0 k a0 a1 a2 false))) = some (r1, r2) := h
  clear h
  by_cases c4 : a2 = 0
  · rw [if_pos c4] at H
    have c4b0 : (a2 == 0) = true := beq_iff_eq.mpr c4
    have c4b1 : (a2 != 0) = false := bne_eq_false_iff_eq.mpr c4
    clear c4
    simp only [Option.some.injEq, Prod.mk.injEq] at H
    obtain ⟨rfl, rfl⟩ := H
    go_enter Try.func42, Try.ntmps42
    go_wp2
    go_ret2
    exact ⟨by first | rfl | (simp; done) | (simp [*]; done), by repeat (first | exact Drawn0.refl _ | apply Drawn0.step)⟩
  · rw [if_neg c4] at H
    have c4b0 : (a2 == 0) = false := beq_eq_false_iff_ne.mpr c4
    have c4b1 : (a2 != 0) = true := bne_iff_ne.mpr c4
    have HC5 := Aside0.mk H
    clear H
    go_enter Try.func42, Try.ntmps42
    go_upto_region 3 with (fail)
    go_cut [11] (fun v11 wc => ∃ (kq : Nat) (x11_4 : Bool), v11 = .bool x11_4 ∧ Aside0 (word_divide.j0 kq a0 a1 a2 x11_4 = some (r1, r2)) ∧ Aside0 (kq ≤ k) ∧ Drawn0 w wc)
    case first =>
      have H := HC5.out
      clear HC5
      by_cases c6 : a2 = (-1)
      · rw [if_pos c6] at H
        have c6b0 : (a2 == (-1)) = true := beq_iff_eq.mpr c6
        have c6b1 : (a2 != (-1)) = false := bne_eq_false_iff_eq.mpr c6
        clear c6
        (first | rw [c6b0] | (simp only [i64_w, i32_w]; rw [c6b0]) | skip)
        have H' := Aside0.mk H
        clear H
        go_wp2
        go_meet
        case rel => exact ⟨_, ((a0 == 4)), (by first | rfl | (simp; done) | (simp [*]; done)), H', ⟨by first | omega | exact Nat.le_refl _⟩, by repeat (first | exact Drawn0.refl _ | apply Drawn0.step)⟩
      · rw [if_neg c6] at H
        have c6b0 : (a2 == (-1)) = false := beq_eq_false_iff_ne.mpr c6
        have c6b1 : (a2 != (-1)) = true := bne_iff_ne.mpr c6
        (first | rw [c6b0] | (simp only [i64_w, i32_w]; rw [c6b0]) | skip)
        have H' := Aside0.mk H
        clear H
        go_wp2
        go_meet
        case rel => exact ⟨_, (false), (by first | rfl | (simp; done) | (simp [*]; done)), H', ⟨by first | omega | exact Nat.le_refl _⟩, by repeat (first | exact Drawn0.refl _ | apply Drawn0.step)⟩
    case rest =>
      clear HC5
      try clear p2
      try clear c4
      try clear c4b0
      try clear c4b1
      try clear c6
      try clear c6b0
      try clear c6b1
      obtain ⟨kq, x11_4, rfl, HA, HJ4, ⟨mc4, rfl⟩⟩ := hcut
      cases kq with
      | zero => exact absurd HA.out (by simp [word_divide.j0])
      | succ kj4 =>
        have H := HA.out
        clear HA
        simp only [word_divide.j0] at H
        by_cases c7 : x11_4 = true
        · subst c7
          have H1 : (some (wrap64 (-a1), true)) = some (r1, r2) := by rw [if_pos rfl] at H; exact H
          clear H
          have H := H1
          clear H1
          simp only [Option.some.injEq, Prod.mk.injEq] at H
          obtain ⟨rfl, rfl⟩ := H
          go_wp2
          go_ret2
          exact ⟨by first | rfl | (simp; done) | (simp [*]; done), by repeat (first | exact Drawn0.refl _ | apply Drawn0.step)⟩
        · replace c7 := Bool.eq_false_iff.mpr c7
          subst c7
          have H1 : (if a2 = (-1) then (some (0, true)) else (if a0 = 4 then (if a2 = 0 then (none) else (some (wrap64 (Int.tdiv a1 a2), true))) else (if a2 = 0 then (none) else (some (Int.tmod a1 a2, true))))) = some (r1, r2) := by rw [if_neg (show ¬ (false = true) by decide)] at H; exact H
          clear H
          have H := H1
          clear H1
          by_cases c8 : a2 = (-1)
          · rw [if_pos c8] at H
            have c8b0 : (a2 == (-1)) = true := beq_iff_eq.mpr c8
            have c8b1 : (a2 != (-1)) = false := bne_eq_false_iff_eq.mpr c8
            clear c8
            simp only [Option.some.injEq, Prod.mk.injEq] at H
            obtain ⟨rfl, rfl⟩ := H
            go_wp2
            go_ret2
            exact ⟨by first | rfl | (simp; done) | (simp [*]; done), by repeat (first | exact Drawn0.refl _ | apply Drawn0.step)⟩
          · rw [if_neg c8] at H
            have c8b0 : (a2 == (-1)) = false := beq_eq_false_iff_ne.mpr c8
            have c8b1 : (a2 != (-1)) = true := bne_iff_ne.mpr c8
            by_cases c9 : a0 = 4
            · rw [if_pos c9] at H
              have c9b0 : (a0 == 4) = true := beq_iff_eq.mpr c9
              have c9b1 : (a0 != 4) = false := bne_eq_false_iff_eq.mpr c9
              clear c9
              by_cases c10 : a2 = 0
              · rw [if_pos c10] at H
                exact absurd H (by simp)
              · rw [if_neg c10] at H
                have c10b0 : (a2 == 0) = false := beq_eq_false_iff_ne.mpr c10
                have c10b1 : (a2 != 0) = true := bne_iff_ne.mpr c10
                simp only [Option.some.injEq, Prod.mk.injEq] at H
                obtain ⟨rfl, rfl⟩ := H
                go_wp2
                go_ret2
                exact ⟨by first | rfl | (simp; done) | (simp [*]; done), by repeat (first | exact Drawn0.refl _ | apply Drawn0.step)⟩
            · rw [if_neg c9] at H
              have c9b0 : (a0 == 4) = false := beq_eq_false_iff_ne.mpr c9
              have c9b1 : (a0 != 4) = true := bne_iff_ne.mpr c9
              by_cases c11 : a2 = 0
              · rw [if_pos c11] at H
                exact absurd H (by simp)
              · rw [if_neg c11] at H
                have c11b0 : (a2 == 0) = false := beq_eq_false_iff_ne.mpr c11
                have c11b1 : (a2 != 0) = true := bne_iff_ne.mpr c11
                simp only [Option.some.injEq, Prod.mk.injEq] at H
                obtain ⟨rfl, rfl⟩ := H
                go_wp2
                go_ret2
                exact ⟨by first | rfl | (simp; done) | (simp [*]; done), by repeat (first | exact Drawn0.refl _ | apply Drawn0.step)⟩

/-! ### word_Do: function 35 -/
def word_Do.j0 : Nat → Int → Int → Int → Int → Bool → Option (Int × Bool)
  | 0, _, _, _, _, _ => none
  | k + 1, x0, x1, x2, x8, x24 => if x24 = true then ((word_divide.f k x0 x1 x2).bind fun bt129 => (some (bt129.1, bt129.2))) else (if x8 = 6 then (some (Go.bits .and .i64 x1 x2, true)) else (if x8 = 7 then (some (Go.bits .or .i64 x1 x2, true)) else (if x8 = 8 then (some (Go.bits .xor .i64 x1 x2, true)) else (if x8 = 9 then (if 0 ≤ (Go.bits .and .u64 (IntKind.u64.wrap (x2)) 63) then (some (shl .i64 x1 (Go.bits .and .u64 (IntKind.u64.wrap (x2)) 63), true)) else (none)) else (if x8 = 10 then (if 0 ≤ (Go.bits .and .u64 (IntKind.u64.wrap (x2)) 63) then (some (shr .i64 x1 (Go.bits .and .u64 (IntKind.u64.wrap (x2)) 63), true)) else (none)) else (if x8 = 11 then ((word_Bool.f (x1 == x2)).bind fun t131 => (some (t131, true))) else (if x8 = 12 then ((word_Bool.f (x1 != x2)).bind fun t132 => (some (t132, true))) else (if x8 = 13 then ((word_Bool.f (decide (x1 < x2))).bind fun t133 => (some (t133, true))) else (if x8 = 14 then ((word_Bool.f (decide (x1 ≤ x2))).bind fun t134 => (some (t134, true))) else (if x8 = 15 then ((word_Bool.f (decide ((IntKind.u64.wrap (x1)) < (IntKind.u64.wrap (x2))))).bind fun t135 => (some (t135, true))) else (some (0, false))))))))))))
def word_Do.f (k : Nat) (a0 : Int) (a1 : Int) (a2 : Int) : Option (Int × Bool) := if a0 = 1 then (some (wrap64 (a1 + a2), true)) else (if a0 = 2 then (some (wrap64 (a1 - a2), true)) else (if a0 = 3 then (some (wrap64 (a1 * a2), true)) else (if a0 = 4 then (word_Do.j0 k a0 a1 a2 a0 (a0 == 4)) else (word_Do.j0 k a0 a1 a2 a0 (a0 == 5)))))
theorem word_Do.mono_l : ∀ k, (∀ y0 y1 y2 y3 y4, LeO (word_Do.j0 k y0 y1 y2 y3 y4) (word_Do.j0 (k + 1) y0 y1 y2 y3 y4))
  | 0 => fun _ _ _ _ _ r h => by simp [word_Do.j0] at h
  | k + 1 => by
    have ih0 := word_Do.mono_l k
    · intro y0 y1 y2 y3 y4
      unfold word_Do.j0
      repeat' first
      | (with_reducible exact ih0 _ _ _ _ _)
      | (with_reducible exact word_divide.mono _ _ _ _)
      | (with_reducible exact LeO.refl _)
      | (with_reducible exact LeO.none _)
      | (with_reducible refine LeO.ite ?_ ?_)
      | (with_reducible refine LeO.bind ?_ (fun _ => ?_))
      | exact ih0 _ _ _ _ _
      | exact word_divide.mono _ _ _ _
      | exact LeO.none _
      | refine LeO.ite ?_ ?_
      | refine LeO.bind ?_ (fun _ => ?_)
theorem word_Do.mono : ∀ a0 a1 a2 k, LeO (word_Do.f k a0 a1 a2) (word_Do.f (k + 1) a0 a1 a2) := by
  intro a0 a1 a2 k
  have ih0 := word_Do.mono_l k
  unfold word_Do.f
  repeat' first
      | (with_reducible exact ih0 _ _ _ _ _)
      | (with_reducible exact word_divide.mono _ _ _ _)
      | (with_reducible exact LeO.refl _)
      | (with_reducible exact LeO.none _)
      | (with_reducible refine LeO.ite ?_ ?_)
      | (with_reducible refine LeO.bind ?_ (fun _ => ?_))
      | exact ih0 _ _ _ _ _
      | exact word_divide.mono _ _ _ _
      | exact LeO.none _
      | refine LeO.ite ?_ ?_
      | refine LeO.bind ?_ (fun _ => ?_)
set_option maxHeartbeats 8000000 in
set_option maxRecDepth 100000 in
theorem word_Do.calls (k : Nat) (a0 : Int) (a1 : Int) (a2 : Int) (r1 : Int) (r2 : Bool) (w : World) (h : word_Do.f k a0 a1 a2 = some (r1, r2)) :
    Calls Try.prog 35 #[.int .i64 a0, .int .i64 a1, .int .i64 a2] w fun e w' => e = .returned (.tuple #[.int .i64 r1, .bool r2]) ∧ Drawn0 w w' := by
  have H : (if a0 = 1 then (some (wrap64 (a1 + a2), true)) else (if a0 = 2 then (some (wrap64 (a1 - a2), true)) else (if a0 = 3 then (some (wrap64 (a1 * a2), true)) else (if a0 = 4 then (word_Do.j0 k a0 a1 a2 a0 (a0 == 4)) else (word_Do.j0 k a0 a1 a2 a0 (a0 == 5)))))) = some (r1, r2) := h
  clear h
  by_cases c4 : a0 = 1
  · rw [if_pos c4] at H
    have c4b0 : (a0 == 1) = true := beq_iff_eq.mpr c4
    have c4b1 : (a0 != 1) = false := bne_eq_false_iff_eq.mpr c4
    clear c4
    simp only [Option.some.injEq, Prod.mk.injEq] at H
    obtain ⟨rfl, rfl⟩ := H
    go_enter Try.func35, Try.ntmps35
    go_wp2
    go_ret2
    exact ⟨by first | rfl | (simp; done) | (simp [*]; done), by repeat (first | exact Drawn0.refl _ | apply Drawn0.step)⟩
  · rw [if_neg c4] at H
    have c4b0 : (a0 == 1) = false := beq_eq_false_iff_ne.mpr c4
    have c4b1 : (a0 != 1) = true := bne_iff_ne.mpr c4
    by_cases c5 : a0 = 2
    · rw [if_pos c5] at H
      have c5b0 : (a0 == 2) = true := beq_iff_eq.mpr c5
      have c5b1 : (a0 != 2) = false := bne_eq_false_iff_eq.mpr c5
      clear c5
      simp only [Option.some.injEq, Prod.mk.injEq] at H
      obtain ⟨rfl, rfl⟩ := H
      go_enter Try.func35, Try.ntmps35
      go_wp2
      go_ret2
      exact ⟨by first | rfl | (simp; done) | (simp [*]; done), by repeat (first | exact Drawn0.refl _ | apply Drawn0.step)⟩
    · rw [if_neg c5] at H
      have c5b0 : (a0 == 2) = false := beq_eq_false_iff_ne.mpr c5
      have c5b1 : (a0 != 2) = true := bne_iff_ne.mpr c5
      by_cases c6 : a0 = 3
      · rw [if_pos c6] at H
        have c6b0 : (a0 == 3) = true := beq_iff_eq.mpr c6
        have c6b1 : (a0 != 3) = false := bne_eq_false_iff_eq.mpr c6
        clear c6
        simp only [Option.some.injEq, Prod.mk.injEq] at H
        obtain ⟨rfl, rfl⟩ := H
        go_enter Try.func35, Try.ntmps35
        go_wp2
        go_ret2
        exact ⟨by first | rfl | (simp; done) | (simp [*]; done), by repeat (first | exact Drawn0.refl _ | apply Drawn0.step)⟩
      · rw [if_neg c6] at H
        have c6b0 : (a0 == 3) = false := beq_eq_false_iff_ne.mpr c6
        have c6b1 : (a0 != 3) = true := bne_iff_ne.mpr c6
        have HC7 := Aside0.mk H
        clear H
        go_enter Try.func35, Try.ntmps35
        go_upto_if 24 with (fail)
        go_cut [24] (fun v24 wc => ∃ (kq : Nat) (x24_6 : Bool), v24 = .bool x24_6 ∧ Aside0 (word_Do.j0 kq a0 a1 a2 a0 x24_6 = some (r1, r2)) ∧ Aside0 (kq ≤ k) ∧ Drawn0 w wc)
        case first =>
          have H := HC7.out
          clear HC7
          by_cases c8 : a0 = 4
          · rw [if_pos c8] at H
            have c8b0 : (a0 == 4) = true := beq_iff_eq.mpr c8
            have c8b1 : (a0 != 4) = false := bne_eq_false_iff_eq.mpr c8
            clear c8
            (first | rw [c8b0] | (simp only [i64_w, i32_w]; rw [c8b0]) | skip)
            have H' := Aside0.mk H
            clear H
            go_wp2
            go_meet
            case rel => exact ⟨_, ((a0 == 4)), (by first | rfl | (simp; done) | (simp [*]; done)), H', ⟨by first | omega | exact Nat.le_refl _⟩, by repeat (first | exact Drawn0.refl _ | apply Drawn0.step)⟩
          · rw [if_neg c8] at H
            have c8b0 : (a0 == 4) = false := beq_eq_false_iff_ne.mpr c8
            have c8b1 : (a0 != 4) = true := bne_iff_ne.mpr c8
            (first | rw [c8b0] | (simp only [i64_w, i32_w]; rw [c8b0]) | skip)
            have H' := Aside0.mk H
            clear H
            go_wp2
            go_meet
            case rel => exact ⟨_, ((a0 == 5)), (by first | rfl | (simp; done) | (simp [*]; done)), H', ⟨by first | omega | exact Nat.le_refl _⟩, by repeat (first | exact Drawn0.refl _ | apply Drawn0.step)⟩
        case rest =>
          clear HC7
          try clear p2
          try clear c3
          try clear c4
          try clear c4b0
          try clear c4b1
          try clear c5
          try clear c5b0
          try clear c5b1
          try clear c6
          try clear c6b0
          try clear c6b1
          try clear p6
          try clear c8
          try clear c8b0
          try clear c8b1
          obtain ⟨kq, x24_6, rfl, HA, HJ6, ⟨mc6, rfl⟩⟩ := hcut
          cases kq with
          | zero => exact absurd HA.out (by simp [word_Do.j0])
          | succ kj6 =>
            have H := HA.out
            clear HA
            simp only [word_Do.j0] at H
            by_cases c9 : x24_6 = true
            · subst c9
              have H1 : ((word_divide.f kj6 a0 a1 a2).bind fun bt129 => (some (bt129.1, bt129.2))) = some (r1, r2) := by rw [if_pos rfl] at H; exact H
              clear H
              have H := H1
              clear H1
              replace H := Option.bind_eq_some_iff.mp H
              obtain ⟨⟨t129, t130⟩, A100, H⟩ := H
              replace H : (some (t129, t130)) = some (r1, r2) := H
              have A10 := Aside0.mk A100
              clear A100
              simp only [Option.some.injEq, Prod.mk.injEq] at H
              obtain ⟨rfl, rfl⟩ := H
              go_wp2_with (first | ((with_reducible refine gate_callee (f := 42) rfl ?_); refine goesL_ (some 30) rfl rfl Try.func42 (by kernel_rfl) rfl #[.int .i64 a0, .int .i64 a1, .int .i64 a2] rfl (by (try simp only [List.map_toArray, List.map_cons, List.map_nil]); first | done | rfl | (simp only [List.length_drop, List.length_take]; rfl)) ?_; (with_reducible refine (word_divide.calls kj6 a0 a1 a2 t129 t130 _ A10.out).mono ?_); rintro e w' ⟨rfl, ⟨nd, rfl⟩⟩; refine ⟨_, rfl, ?_⟩))
              go_ret2
              exact ⟨by first | rfl | (simp; done) | (simp [*]; done), by repeat (first | exact Drawn0.refl _ | apply Drawn0.step)⟩
            · replace c9 := Bool.eq_false_iff.mpr c9
              subst c9
              have H1 : (if a0 = 6 then (some (Go.bits .and .i64 a1 a2, true)) else (if a0 = 7 then (some (Go.bits .or .i64 a1 a2, true)) else (if a0 = 8 then (some (Go.bits .xor .i64 a1 a2, true)) else (if a0 = 9 then (if 0 ≤ (Go.bits .and .u64 (IntKind.u64.wrap (a2)) 63) then (some (shl .i64 a1 (Go.bits .and .u64 (IntKind.u64.wrap (a2)) 63), true)) else (none)) else (if a0 = 10 then (if 0 ≤ (Go.bits .and .u64 (IntKind.u64.wrap (a2)) 63) then (some (shr .i64 a1 (Go.bits .and .u64 (IntKind.u64.wrap (a2)) 63), true)) else (none)) else (if a0 = 11 then ((word_Bool.f (a1 == a2)).bind fun t131 => (some (t131, true))) else (if a0 = 12 then ((word_Bool.f (a1 != a2)).bind fun t132 => (some (t132, true))) else (if a0 = 13 then ((word_Bool.f (decide (a1 < a2))).bind fun t133 => (some (t133, true))) else (if a0 = 14 then ((word_Bool.f (decide (a1 ≤ a2))).bind fun t134 => (some (t134, true))) else (if a0 = 15 then ((word_Bool.f (decide ((IntKind.u64.wrap (a1)) < (IntKind.u64.wrap (a2))))).bind fun t135 => (some (t135, true))) else (some (0, false)))))))))))) = some (r1, r2) := by rw [if_neg (show ¬ (false = true) by decide)] at H; exact H
              clear H
              have H := H1
              clear H1
              by_cases c11 : a0 = 6
              · rw [if_pos c11] at H
                have c11b0 : (a0 == 6) = true := beq_iff_eq.mpr c11
                have c11b1 : (a0 != 6) = false := bne_eq_false_iff_eq.mpr c11
                clear c11
                simp only [Option.some.injEq, Prod.mk.injEq] at H
                obtain ⟨rfl, rfl⟩ := H
                go_wp2
                go_ret2
                exact ⟨by first | rfl | (simp; done) | (simp [*]; done), by repeat (first | exact Drawn0.refl _ | apply Drawn0.step)⟩
              · rw [if_neg c11] at H
                have c11b0 : (a0 == 6) = false := beq_eq_false_iff_ne.mpr c11
                have c11b1 : (a0 != 6) = true := bne_iff_ne.mpr c11
                by_cases c12 : a0 = 7
                · rw [if_pos c12] at H
                  have c12b0 : (a0 == 7) = true := beq_iff_eq.mpr c12
                  have c12b1 : (a0 != 7) = false := bne_eq_false_iff_eq.mpr c12
                  clear c12
                  simp only [Option.some.injEq, Prod.mk.injEq] at H
                  obtain ⟨rfl, rfl⟩ := H
                  go_wp2
                  go_ret2
                  exact ⟨by first | rfl | (simp; done) | (simp [*]; done), by repeat (first | exact Drawn0.refl _ | apply Drawn0.step)⟩
                · rw [if_neg c12] at H
                  have c12b0 : (a0 == 7) = false := beq_eq_false_iff_ne.mpr c12
                  have c12b1 : (a0 != 7) = true := bne_iff_ne.mpr c12
                  by_cases c13 : a0 = 8
                  · rw [if_pos c13] at H
                    have c13b0 : (a0 == 8) = true := beq_iff_eq.mpr c13
                    have c13b1 : (a0 != 8) = false := bne_eq_false_iff_eq.mpr c13
                    clear c13
                    simp only [Option.some.injEq, Prod.mk.injEq] at H
                    obtain ⟨rfl, rfl⟩ := H
                    go_wp2
                    go_ret2
                    exact ⟨by first | rfl | (simp; done) | (simp [*]; done), by repeat (first | exact Drawn0.refl _ | apply Drawn0.step)⟩
                  · rw [if_neg c13] at H
                    have c13b0 : (a0 == 8) = false := beq_eq_false_iff_ne.mpr c13
                    have c13b1 : (a0 != 8) = true := bne_iff_ne.mpr c13
                    by_cases c14 : a0 = 9
                    · rw [if_pos c14] at H
                      have c14b0 : (a0 == 9) = true := beq_iff_eq.mpr c14
                      have c14b1 : (a0 != 9) = false := bne_eq_false_iff_eq.mpr c14
                      clear c14
                      obtain ⟨ji15, hji15⟩ : ∃ j_ : Int, (Go.bits .and .u64 (IntKind.u64.wrap (a2)) 63) = j_ := ⟨_, rfl⟩
                      replace H : (if 0 ≤ (ji15) then (some (shl .i64 a1 (ji15), true)) else (none)) = some (r1, r2) := by first | (rw [hji15] at H; exact H) | (simp only [hji15] at H ⊢; exact H)
                      by_cases c16 : 0 ≤ (ji15)
                      · rw [if_pos c16] at H
                        have c16b0 := eq_true c16
                        have c16b1 : decide (0 ≤ (ji15)) = true := decide_eq_true c16
                        clear c16
                        obtain ⟨ji17, hji17⟩ : ∃ j_ : Int, (shl .i64 a1 (ji15)) = j_ := ⟨_, rfl⟩
                        replace H : (some (ji17, true)) = some (r1, r2) := by first | (rw [hji17] at H; exact H) | (simp only [hji17] at H ⊢; exact H)
                        have hji17_ : (IntKind.i64.wrap (a1 * 2 ^ min (ji15).toNat 64)) = ji17 := hji17
                        have hji17z : (ji15) ≤ 64 → (IntKind.i64.wrap (a1 * 2 ^ (ji15).toNat)) = ji17 := shl_small hji17
                        have hji17y : (wrap64 (a1 * 2 ^ min (ji15).toNat 64)) = ji17 := (i64_w _).symm.trans hji17_
                        have hji17x : (ji15) ≤ 64 → (wrap64 (a1 * 2 ^ (ji15).toNat)) = ji17 := fun h_ => (i64_w _).symm.trans (hji17z h_)
                        simp only [Option.some.injEq, Prod.mk.injEq] at H
                        obtain ⟨rfl, rfl⟩ := H
                        go_wp2
                        go_ret2
                        exact ⟨by first | rfl | (simp; done) | (simp only [← hji15, ← hji17] <;> (first | rfl | simp)) | (simp [*]; done), by repeat (first | exact Drawn0.refl _ | apply Drawn0.step)⟩
                      · rw [if_neg c16] at H
                        exact absurd H (by simp)
                    · rw [if_neg c14] at H
                      have c14b0 : (a0 == 9) = false := beq_eq_false_iff_ne.mpr c14
                      have c14b1 : (a0 != 9) = true := bne_iff_ne.mpr c14
                      by_cases c18 : a0 = 10
                      · rw [if_pos c18] at H
                        have c18b0 : (a0 == 10) = true := beq_iff_eq.mpr c18
                        have c18b1 : (a0 != 10) = false := bne_eq_false_iff_eq.mpr c18
                        clear c18
                        obtain ⟨ji19, hji19⟩ : ∃ j_ : Int, (Go.bits .and .u64 (IntKind.u64.wrap (a2)) 63) = j_ := ⟨_, rfl⟩
                        replace H : (if 0 ≤ (ji19) then (some (shr .i64 a1 (ji19), true)) else (none)) = some (r1, r2) := by first | (rw [hji19] at H; exact H) | (simp only [hji19] at H ⊢; exact H)
                        by_cases c20 : 0 ≤ (ji19)
                        · rw [if_pos c20] at H
                          have c20b0 := eq_true c20
                          have c20b1 : decide (0 ≤ (ji19)) = true := decide_eq_true c20
                          clear c20
                          obtain ⟨ji21, hji21⟩ : ∃ j_ : Int, (shr .i64 a1 (ji19)) = j_ := ⟨_, rfl⟩
                          replace H : (some (ji21, true)) = some (r1, r2) := by first | (rw [hji21] at H; exact H) | (simp only [hji21] at H ⊢; exact H)
                          have hji21_ : (a1 / 2 ^ min (ji19).toNat 64) = ji21 := hji21
                          have hji21z : (ji19) ≤ 64 → (a1 / 2 ^ (ji19).toNat) = ji21 := shr_small hji21
                          simp only [Option.some.injEq, Prod.mk.injEq] at H
                          obtain ⟨rfl, rfl⟩ := H
                          go_wp2
                          go_ret2
                          exact ⟨by first | rfl | (simp; done) | (simp only [← hji19, ← hji21] <;> (first | rfl | simp)) | (simp [*]; done), by repeat (first | exact Drawn0.refl _ | apply Drawn0.step)⟩
                        · rw [if_neg c20] at H
                          exact absurd H (by simp)
                      · rw [if_neg c18] at H
                        have c18b0 : (a0 == 10) = false := beq_eq_false_iff_ne.mpr c18
                        have c18b1 : (a0 != 10) = true := bne_iff_ne.mpr c18
                        by_cases c22 : a0 = 11
                        · rw [if_pos c22] at H
                          have c22b0 : (a0 == 11) = true := beq_iff_eq.mpr c22
                          have c22b1 : (a0 != 11) = false := bne_eq_false_iff_eq.mpr c22
                          clear c22
                          replace H := Option.bind_eq_some_iff.mp H
                          obtain ⟨t131, A230, H⟩ := H
                          replace H : (some (t131, true)) = some (r1, r2) := H
                          have A23 := Aside0.mk A230
                          clear A230
                          simp only [Option.some.injEq, Prod.mk.injEq] at H
                          obtain ⟨rfl, rfl⟩ := H
                          go_wp2_with (first | ((with_reducible refine gate_callee (f := 37) rfl ?_); refine goesL_ (some 67) rfl rfl Try.func37 (by kernel_rfl) rfl #[.bool (a1 == a2)] rfl (by (try simp only [List.map_toArray, List.map_cons, List.map_nil]); first | done | rfl | (simp only [List.length_drop, List.length_take]; rfl)) ?_; (with_reducible refine (word_Bool.calls (a1 == a2) t131 _ A23.out).mono ?_); rintro e w' ⟨rfl, ⟨nd, rfl⟩⟩; refine ⟨_, rfl, ?_⟩))
                          go_ret2
                          exact ⟨by first | rfl | (simp; done) | (simp [*]; done), by repeat (first | exact Drawn0.refl _ | apply Drawn0.step)⟩
                        · rw [if_neg c22] at H
                          have c22b0 : (a0 == 11) = false := beq_eq_false_iff_ne.mpr c22
                          have c22b1 : (a0 != 11) = true := bne_iff_ne.mpr c22
                          by_cases c24 : a0 = 12
                          · rw [if_pos c24] at H
                            have c24b0 : (a0 == 12) = true := beq_iff_eq.mpr c24
                            have c24b1 : (a0 != 12) = false := bne_eq_false_iff_eq.mpr c24
                            clear c24
                            replace H := Option.bind_eq_some_iff.mp H
                            obtain ⟨t132, A250, H⟩ := H
                            replace H : (some (t132, true)) = some (r1, r2) := H
                            have A25 := Aside0.mk A250
                            clear A250
                            simp only [Option.some.injEq, Prod.mk.injEq] at H
                            obtain ⟨rfl, rfl⟩ := H
                            go_wp2_with (first | ((with_reducible refine gate_callee (f := 37) rfl ?_); refine goesL_ (some 73) rfl rfl Try.func37 (by kernel_rfl) rfl #[.bool (a1 != a2)] rfl (by (try simp only [List.map_toArray, List.map_cons, List.map_nil]); first | done | rfl | (simp only [List.length_drop, List.length_take]; rfl)) ?_; (with_reducible refine (word_Bool.calls (a1 != a2) t132 _ A25.out).mono ?_); rintro e w' ⟨rfl, ⟨nd, rfl⟩⟩; refine ⟨_, rfl, ?_⟩))
                            go_ret2
                            exact ⟨by first | rfl | (simp; done) | (simp [*]; done), by repeat (first | exact Drawn0.refl _ | apply Drawn0.step)⟩
                          · rw [if_neg c24] at H
                            have c24b0 : (a0 == 12) = false := beq_eq_false_iff_ne.mpr c24
                            have c24b1 : (a0 != 12) = true := bne_iff_ne.mpr c24
                            by_cases c26 : a0 = 13
                            · rw [if_pos c26] at H
                              have c26b0 : (a0 == 13) = true := beq_iff_eq.mpr c26
                              have c26b1 : (a0 != 13) = false := bne_eq_false_iff_eq.mpr c26
                              clear c26
                              replace H := Option.bind_eq_some_iff.mp H
                              obtain ⟨t133, A270, H⟩ := H
                              replace H : (some (t133, true)) = some (r1, r2) := H
                              have A27 := Aside0.mk A270
                              clear A270
                              simp only [Option.some.injEq, Prod.mk.injEq] at H
                              obtain ⟨rfl, rfl⟩ := H
                              go_wp2_with (first | ((with_reducible refine gate_callee (f := 37) rfl ?_); refine goesL_ (some 79) rfl rfl Try.func37 (by kernel_rfl) rfl #[.bool (decide (a1 < a2))] rfl (by (try simp only [List.map_toArray, List.map_cons, List.map_nil]); first | done | rfl | (simp only [List.length_drop, List.length_take]; rfl)) ?_; (with_reducible refine (word_Bool.calls (decide (a1 < a2)) t133 _ A27.out).mono ?_); rintro e w' ⟨rfl, ⟨nd, rfl⟩⟩; refine ⟨_, rfl, ?_⟩))
                              go_ret2
                              exact ⟨by first | rfl | (simp; done) | (simp [*]; done), by repeat (first | exact Drawn0.refl _ | apply Drawn0.step)⟩
                            · rw [if_neg c26] at H
                              have c26b0 : (a0 == 13) = false := beq_eq_false_iff_ne.mpr c26
                              have c26b1 : (a0 != 13) = true := bne_iff_ne.mpr c26
                              by_cases c28 : a0 = 14
                              · rw [if_pos c28] at H
                                have c28b0 : (a0 == 14) = true := beq_iff_eq.mpr c28
                                have c28b1 : (a0 != 14) = false := bne_eq_false_iff_eq.mpr c28
                                clear c28
                                replace H := Option.bind_eq_some_iff.mp H
                                obtain ⟨t134, A290, H⟩ := H
                                replace H : (some (t134, true)) = some (r1, r2) := H
                                have A29 := Aside0.mk A290
                                clear A290
                                simp only [Option.some.injEq, Prod.mk.injEq] at H
                                obtain ⟨rfl, rfl⟩ := H
                                go_wp2_with (first | ((with_reducible refine gate_callee (f := 37) rfl ?_); refine goesL_ (some 85) rfl rfl Try.func37 (by kernel_rfl) rfl #[.bool (decide (a1 ≤ a2))] rfl (by (try simp only [List.map_toArray, List.map_cons, List.map_nil]); first | done | rfl | (simp only [List.length_drop, List.length_take]; rfl)) ?_; (with_reducible refine (word_Bool.calls (decide (a1 ≤ a2)) t134 _ A29.out).mono ?_); rintro e w' ⟨rfl, ⟨nd, rfl⟩⟩; refine ⟨_, rfl, ?_⟩))
                                go_ret2
                                exact ⟨by first | rfl | (simp; done) | (simp [*]; done), by repeat (first | exact Drawn0.refl _ | apply Drawn0.step)⟩
                              · rw [if_neg c28] at H
                                have c28b0 : (a0 == 14) = false := beq_eq_false_iff_ne.mpr c28
                                have c28b1 : (a0 != 14) = true := bne_iff_ne.mpr c28
                                by_cases c30 : a0 = 15
                                · rw [if_pos c30] at H
                                  have c30b0 : (a0 == 15) = true := beq_iff_eq.mpr c30
                                  have c30b1 : (a0 != 15) = false := bne_eq_false_iff_eq.mpr c30
                                  clear c30
                                  replace H := Option.bind_eq_some_iff.mp H
                                  obtain ⟨t135, A310, H⟩ := H
                                  replace H : (some (t135, true)) = some (r1, r2) := H
                                  have A31 := Aside0.mk A310
                                  clear A310
                                  simp only [Option.some.injEq, Prod.mk.injEq] at H
                                  obtain ⟨rfl, rfl⟩ := H
                                  go_wp2_with (first | ((with_reducible refine gate_callee (f := 37) rfl ?_); refine goesL_ (some 93) rfl rfl Try.func37 (by kernel_rfl) rfl #[.bool (decide ((IntKind.u64.wrap (a1)) < (IntKind.u64.wrap (a2))))] rfl (by (try simp only [List.map_toArray, List.map_cons, List.map_nil]); first | done | rfl | (simp only [List.length_drop, List.length_take]; rfl)) ?_; (with_reducible refine (word_Bool.calls (decide ((IntKind.u64.wrap (a1)) < (IntKind.u64.wrap (a2)))) t135 _ A31.out).mono ?_); rintro e w' ⟨rfl, ⟨nd, rfl⟩⟩; refine ⟨_, rfl, ?_⟩))
                                  go_ret2
                                  exact ⟨by first | rfl | (simp; done) | (simp [*]; done), by repeat (first | exact Drawn0.refl _ | apply Drawn0.step)⟩
                                · rw [if_neg c30] at H
                                  have c30b0 : (a0 == 15) = false := beq_eq_false_iff_ne.mpr c30
                                  have c30b1 : (a0 != 15) = true := bne_iff_ne.mpr c30
                                  simp only [Option.some.injEq, Prod.mk.injEq] at H
                                  obtain ⟨rfl, rfl⟩ := H
                                  go_wp2
                                  go_ret2
                                  exact ⟨by first | rfl | (simp; done) | (simp [*]; done), by repeat (first | exact Drawn0.refl _ | apply Drawn0.step)⟩

-- NOT PRINTED: function 36 (mach_State_reach)

-- NOT PRINTED: function 38 (mach_State_call)

-- NOT PRINTED: function 27 (mach_State_do)

-- NOT PRINTED: function 19 (mach_State_Step)

-- NOT PRINTED: function 11 (mach_Run)


end Go.Proofs.Ytkgoljbimblkhaa.B
