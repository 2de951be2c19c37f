/- What (*lexer).run tells: out of the kit's print, changed by a program of mine. -/
import Derived.Test.YtfljigegjhnidaaDoorBx2
namespace Go.Proofs.YtfljigegjhnidaaDoor.B
open Go.RowKit Go.Proofs.YtfljigegjhnidaaDoorW.PrintWords Go.Proofs.YtfljigegjhnidaaDoorW.PrintLast Go.Proofs.YtfljigegjhnidaaDoorW.PrintMore
attribute [local go_sem] max2_int min2_int max_two min_two max_three min_three max_four min_four   -- for this text's walks alone
set_option linter.unusedVariables false
set_option linter.unusedSimpArgs false

attribute [local go_sem high] eqA28
/-! ### lex_lexer_run: function 21 -/
def lex_lexer_run.l0 : Nat → Bool → Int → ByteArray → Int → Int → Int → Option (Int × ByteArray × Int × Int × Int)
  | 0, _, _, _, _, _, _ => none
  | k + 1, x1, x5, x1000, x1001, x1002, x1003 => if (wrap64 (x1001 + x5)) < (x1000.size : Int) then (if 0 ≤ (wrap64 (x1001 + x5)) then ((lex_digit.f (bt x1000 (wrap64 (x1001 + x5)))).bind fun t118 => (if t118 = true then (lex_lexer_run.l0 k x1 (wrap64 (x5 + 1)) x1000 x1001 x1002 x1003) else (if x1 = true then ((lex_letter.f (bt x1000 (wrap64 (x1001 + x5)))).bind fun t119 => (if t119 = true then (lex_lexer_run.l0 k x1 (wrap64 (x5 + 1)) x1000 x1001 x1002 x1003) else (some (x5, x1000, x1001, x1002, x1003)))) else (some (x5, x1000, x1001, x1002, x1003))))) else (none)) else (some (x5, x1000, x1001, x1002, x1003))
def lex_lexer_run.f (k : Nat) (s0_0 : ByteArray) (s0_1 : Int) (s0_2 : Int) (s0_3 : Int) (a1 : Bool) : Option (Int × ByteArray × Int × Int × Int) := lex_lexer_run.l0 k a1 0 s0_0 s0_1 s0_2 s0_3
theorem lex_lexer_run.mono_l : ∀ k, (∀ y0 y1 y2 y3 y4 y5, LeO (lex_lexer_run.l0 k y0 y1 y2 y3 y4 y5) (lex_lexer_run.l0 (k + 1) y0 y1 y2 y3 y4 y5))
  | 0 => fun _ _ _ _ _ _ r h => by simp [lex_lexer_run.l0] at h
  | k + 1 => by
    have ih0 := lex_lexer_run.mono_l k
    · intro y0 y1 y2 y3 y4 y5
      unfold lex_lexer_run.l0
      repeat' first
      | (with_reducible exact ih0 _ _ _ _ _ _)
      | (with_reducible exact LeO.refl _)
      | (with_reducible exact LeO.none _)
      | (with_reducible refine LeO.ite ?_ ?_)
      | (with_reducible refine LeO.bind ?_ (fun _ => ?_))
      | exact ih0 _ _ _ _ _ _
      | exact LeO.none _
      | refine LeO.ite ?_ ?_
      | refine LeO.bind ?_ (fun _ => ?_)
theorem lex_lexer_run.mono : ∀ a0 a1 a2 a3 a4 k, LeO (lex_lexer_run.f k a0 a1 a2 a3 a4) (lex_lexer_run.f (k + 1) a0 a1 a2 a3 a4) := by
  intro a0 a1 a2 a3 a4 k
  have ih0 := lex_lexer_run.mono_l k
  unfold lex_lexer_run.f
  repeat' first
      | (with_reducible exact ih0 _ _ _ _ _ _)
      | (with_reducible exact LeO.refl _)
      | (with_reducible exact LeO.none _)
      | (with_reducible refine LeO.ite ?_ ?_)
      | (with_reducible refine LeO.bind ?_ (fun _ => ?_))
      | exact ih0 _ _ _ _ _ _
      | exact LeO.none _
      | refine LeO.ite ?_ ?_
      | refine LeO.bind ?_ (fun _ => ?_)
set_option maxHeartbeats 8000000 in
set_option maxRecDepth 100000 in
theorem lex_lexer_run.calls (k : Nat) (g : Nat) (s0_0 : ByteArray) (s0_1 : Int) (s0_2 : Int) (s0_3 : Int) (a1 : Bool) (r1 : Int) (r2 : ByteArray) (r3 : Int) (r4 : Int) (r5 : Int) (w0 w : World) (hI : IsS51 w0 w g s0_0 s0_1 s0_2 s0_3) (hB : Below w0.heap.size w0 w) (h : lex_lexer_run.f k s0_0 s0_1 s0_2 s0_3 a1 = some (r1, r2, r3, r4, r5)) :
    Calls Tryd.prog 21 #[.pointer (some ⟨g, 0, none⟩), .bool a1] w fun e w' => e = .returned (.int .i64 r1) ∧ IsS51 w0 w' g r2 r3 r4 r5 ∧ Below w0.heap.size w0 w' ∧ KeepBut w w' g none ∧ Drawn0 w w' := by
  have HD := Aside0.mk (Drawn0.refl w)
  have HI0 := Aside0.mk hI
  have HK := Aside0.mk (KeepBut.refl w g none)
  have HL := Aside0.mk hB.size
  clear hI
  have HW0 := Aside0.mk hB.size
  have HB := Aside0.mk hB
  clear hB
  have H : (lex_lexer_run.l0 k a1 0 s0_0 s0_1 s0_2 s0_3) = some (r1, r2, r3, r4, r5) := h
  clear h
  have H' := Aside0.mk H
  clear H
  go_enter Tryd.func21, Tryd.ntmps21
  go_wp2
  repeat (go_quiet (fail); try go_wp2)
  go_loopg [5] k (fun kq v5 w' => ∃ (x5_1 : Int), v5 = .int .i64 x5_1 ∧ Aside0 (lex_lexer_run.l0 kq a1 x5_1 s0_0 s0_1 s0_2 s0_3 = some (r1, r2, r3, r4, r5)) ∧ Aside0 (kq ≤ k) ∧ Aside0 (IsS51 w0 w' g s0_0 s0_1 s0_2 s0_3) ∧ Aside0 (KeepBut w w' g none) ∧ Aside0 (Below w0.heap.size w0 w') ∧ Aside0 (Drawn0 w w'))
  case atStart => exact ⟨(0), (by first | rfl | (simp; done) | (simp [*]; done)), H', ⟨Nat.le_refl _⟩, ⟨by repeat (first | (with_reducible first | exact HI0.out | apply IsS51.alloc | apply IsS51.drewN | apply IsS51.drew | apply IsS51.set_0 | apply IsS51.set_1 | apply IsS51.set_2 | apply IsS51.set_3) | exact HI0.out)⟩, ⟨by repeat (first | (with_reducible first | exact HK.out | apply KeepBut.set_ | apply keep_drewN | apply keep_drew | apply keep_alloc) | exact HK.out)⟩, ⟨by repeat (first | (with_reducible first | exact HB.out | apply below_alloc | apply pw_below_drewN | apply below_drew1 | refine below_set ?_ (IsS51.ge HI0.out)) | exact HB.out)⟩, ⟨by repeat (first | (with_reducible first | exact HD.out | apply Drawn0.step) | exact HD.out)⟩⟩
  case round =>
    clear H'
    try clear c2
    try clear p2
    obtain ⟨x5_1, rfl, HA, HK1, HI0, HK, HB, HD⟩ := hrel
    cases gk with
    | zero => exact absurd HA.out (by simp [lex_lexer_run.l0])
    | succ k1 =>
      have H := HA.out
      clear HA
      simp only [lex_lexer_run.l0] at H
      by_cases c3 : (wrap64 (s0_1 + x5_1)) < (s0_0.size : Int)
      · rw [if_pos c3] at H
        have c3b0 : decide ((wrap64 (s0_1 + x5_1)) < (s0_0.size : Int)) = true := decide_eq_true c3
        clear c3
        obtain ⟨ji4, hji4⟩ : ∃ j_ : Int, (wrap64 (s0_1 + x5_1)) = j_ := ⟨_, rfl⟩
        replace H : (if 0 ≤ (ji4) then ((lex_digit.f (bt s0_0 (ji4))).bind fun t118 => (if t118 = true then (lex_lexer_run.l0 k1 a1 (wrap64 (x5_1 + 1)) s0_0 s0_1 s0_2 s0_3) else (if a1 = true then ((lex_letter.f (bt s0_0 (ji4))).bind fun t119 => (if t119 = true then (lex_lexer_run.l0 k1 a1 (wrap64 (x5_1 + 1)) s0_0 s0_1 s0_2 s0_3) else (some (x5_1, s0_0, s0_1, s0_2, s0_3)))) else (some (x5_1, s0_0, s0_1, s0_2, s0_3))))) else (none)) = some (r1, r2, r3, r4, r5) := by first | (rw [hji4] at H; exact H) | (simp only [hji4] at H ⊢; exact H)
        (try rw [hji4] at c3b0)
        have hji4w : (IntKind.i64.wrap (s0_1 + x5_1)) = ji4 := (i64_w _).trans hji4
        by_cases c5 : 0 ≤ (ji4)
        · rw [if_pos c5] at H
          have c5b0 : decide (0 ≤ (ji4)) = true := decide_eq_true c5
          clear c5
          replace H := Option.bind_eq_some_iff.mp H
          obtain ⟨t118, A70, H⟩ := H
          replace H : (if t118 = true then (lex_lexer_run.l0 k1 a1 (wrap64 (x5_1 + 1)) s0_0 s0_1 s0_2 s0_3) else (if a1 = true then ((lex_letter.f (bt s0_0 (ji4))).bind fun t119 => (if t119 = true then (lex_lexer_run.l0 k1 a1 (wrap64 (x5_1 + 1)) s0_0 s0_1 s0_2 s0_3) else (some (x5_1, s0_0, s0_1, s0_2, s0_3)))) else (some (x5_1, s0_0, s0_1, s0_2, s0_3)))) = some (r1, r2, r3, r4, r5) := H
          have A7 := Aside0.mk A70
          clear A70
          by_cases c8 : t118 = true
          · subst c8
            have H1 : (lex_lexer_run.l0 k1 a1 (wrap64 (x5_1 + 1)) s0_0 s0_1 s0_2 s0_3) = some (r1, r2, r3, r4, r5) := by rw [if_pos rfl] at H; exact H
            clear H
            have H := H1
            clear H1
            have H' := Aside0.mk H
            clear H
            obtain ⟨HGz9, hgz9⟩ := HI0.out
            have hcz9_0 := cellS51_0 HGz9
            have hcz9_1 := cellS51_1 HGz9
            have hcz9_2 := cellS51_2 HGz9
            have hcz9_3 := cellS51_3 HGz9
            have hfz9_0 := blk_frozen HGz9 0
            have hfz9_1 := blk_frozen HGz9 1
            have hfz9_2 := blk_frozen HGz9 2
            have hfz9_3 := blk_frozen HGz9 3
            clear HGz9 hgz9
            have p6 : 0 ≤ ((ji4) : Int) := of_decide_eq_true (by first | (with_reducible assumption) | assumption)
            have q6 : (ji4) < (s0_0.size : Int) := of_decide_eq_true (by first | (with_reducible assumption) | assumption)
            have hx6 := bt_at s0_0 (ji4)
            replace p6 := eq_true p6
            replace q6 := eq_true q6
            go_wp2_with (first | (go_at_call 22; (with_reducible refine (lex_digit.calls (bt s0_0 (ji4)) true _ A7.out).mono ?_); rintro e w' ⟨rfl, ⟨nd, rfl⟩⟩))
            repeat (go_quiet ((first | (go_at_call 22; (with_reducible refine (lex_digit.calls (bt s0_0 (ji4)) true _ A7.out).mono ?_); rintro e w' ⟨rfl, ⟨nd, rfl⟩⟩; (try first | exact ⟨rfl, _, World.drewN_drewN _ _ _⟩ | exact ⟨rfl, _, Eq.trans (World.drewN_drewN _ _ _) (congrArg (World.drewN _) (Nat.add_assoc _ _ _))⟩)))); try go_wp2_with (first | (go_at_call 22; (with_reducible refine (lex_digit.calls (bt s0_0 (ji4)) true _ A7.out).mono ?_); rintro e w' ⟨rfl, ⟨nd, rfl⟩⟩)))
            go_roundg k1
            case measure => have := HK1.out; omega
            case rel => exact ⟨(wrap64 (x5_1 + 1)), (by first | rfl | (simp; done) | (simp [*]; done)), H', ⟨by have := HK1.out; omega⟩, ⟨by repeat (first | (with_reducible first | exact HI0.out | apply IsS51.alloc | apply IsS51.drewN | apply IsS51.drew | apply IsS51.set_0 | apply IsS51.set_1 | apply IsS51.set_2 | apply IsS51.set_3) | exact HI0.out)⟩, ⟨by repeat (first | (with_reducible first | exact HK.out | apply KeepBut.set_ | apply keep_drewN | apply keep_drew | apply keep_alloc) | exact HK.out)⟩, ⟨by repeat (first | (with_reducible first | exact HB.out | apply below_alloc | apply pw_below_drewN | apply below_drew1 | refine below_set ?_ (IsS51.ge HI0.out)) | exact HB.out)⟩, ⟨by repeat (first | (with_reducible first | exact HD.out | apply Drawn0.step) | exact HD.out)⟩⟩
          · replace c8 := Bool.eq_false_iff.mpr c8
            subst c8
            have H1 : (if a1 = true then ((lex_letter.f (bt s0_0 (ji4))).bind fun t119 => (if t119 = true then (lex_lexer_run.l0 k1 a1 (wrap64 (x5_1 + 1)) s0_0 s0_1 s0_2 s0_3) else (some (x5_1, s0_0, s0_1, s0_2, s0_3)))) else (some (x5_1, s0_0, s0_1, s0_2, s0_3))) = some (r1, r2, r3, r4, r5) := by rw [if_neg (show ¬ (false = true) by decide)] at H; exact H
            clear H
            have H := H1
            clear H1
            by_cases c10 : a1 = true
            · subst c10
              have H1 : ((lex_letter.f (bt s0_0 (ji4))).bind fun t119 => (if t119 = true then (lex_lexer_run.l0 k1 true (wrap64 (x5_1 + 1)) s0_0 s0_1 s0_2 s0_3) else (some (x5_1, s0_0, s0_1, s0_2, s0_3)))) = some (r1, r2, r3, r4, r5) := by rw [if_pos rfl] at H; exact H
              clear H
              have H := H1
              clear H1
              replace H := Option.bind_eq_some_iff.mp H
              obtain ⟨t119, A120, H⟩ := H
              replace H : (if t119 = true then (lex_lexer_run.l0 k1 true (wrap64 (x5_1 + 1)) s0_0 s0_1 s0_2 s0_3) else (some (x5_1, s0_0, s0_1, s0_2, s0_3))) = some (r1, r2, r3, r4, r5) := H
              have A12 := Aside0.mk A120
              clear A120
              by_cases c13 : t119 = true
              · subst c13
                have H1 : (lex_lexer_run.l0 k1 true (wrap64 (x5_1 + 1)) s0_0 s0_1 s0_2 s0_3) = some (r1, r2, r3, r4, r5) := by rw [if_pos rfl] at H; exact H
                clear H
                have H := H1
                clear H1
                have H' := Aside0.mk H
                clear H
                obtain ⟨HGz14, hgz14⟩ := HI0.out
                have hcz14_0 := cellS51_0 HGz14
                have hcz14_1 := cellS51_1 HGz14
                have hcz14_2 := cellS51_2 HGz14
                have hcz14_3 := cellS51_3 HGz14
                have hfz14_0 := blk_frozen HGz14 0
                have hfz14_1 := blk_frozen HGz14 1
                have hfz14_2 := blk_frozen HGz14 2
                have hfz14_3 := blk_frozen HGz14 3
                clear HGz14 hgz14
                have p6 : 0 ≤ ((ji4) : Int) := of_decide_eq_true (by first | (with_reducible assumption) | assumption)
                have q6 : (ji4) < (s0_0.size : Int) := of_decide_eq_true (by first | (with_reducible assumption) | assumption)
                have hx6 := bt_at s0_0 (ji4)
                replace p6 := eq_true p6
                replace q6 := eq_true q6
                go_wp2_with (first | (go_at_call 22; (with_reducible refine (lex_digit.calls (bt s0_0 (ji4)) false _ A7.out).mono ?_); rintro e w' ⟨rfl, ⟨nd, rfl⟩⟩; have p11 : 0 ≤ ((ji4) : Int) := of_decide_eq_true (by first | (with_reducible assumption) | assumption); have q11 : (ji4) < (s0_0.size : Int) := of_decide_eq_true (by first | (with_reducible assumption) | assumption); have hx11 := bt_at s0_0 (ji4); replace p11 := eq_true p11; replace q11 := eq_true q11) | (go_at_call 20; (with_reducible refine (lex_letter.calls (bt s0_0 (ji4)) true _ A12.out).mono ?_); rintro e w' ⟨rfl, ⟨nd, rfl⟩⟩))
                repeat (go_quiet ((first | (go_at_call 22; (with_reducible refine (lex_digit.calls (bt s0_0 (ji4)) false _ A7.out).mono ?_); rintro e w' ⟨rfl, ⟨nd, rfl⟩⟩; have p11 : 0 ≤ ((ji4) : Int) := of_decide_eq_true (by first | (with_reducible assumption) | assumption); have q11 : (ji4) < (s0_0.size : Int) := of_decide_eq_true (by first | (with_reducible assumption) | assumption); have hx11 := bt_at s0_0 (ji4); replace p11 := eq_true p11; replace q11 := eq_true q11; (try first | exact ⟨rfl, _, World.drewN_drewN _ _ _⟩ | exact ⟨rfl, _, Eq.trans (World.drewN_drewN _ _ _) (congrArg (World.drewN _) (Nat.add_assoc _ _ _))⟩)) | (go_at_call 20; (with_reducible refine (lex_letter.calls (bt s0_0 (ji4)) true _ A12.out).mono ?_); rintro e w' ⟨rfl, ⟨nd, rfl⟩⟩; (try first | exact ⟨rfl, _, World.drewN_drewN _ _ _⟩ | exact ⟨rfl, _, Eq.trans (World.drewN_drewN _ _ _) (congrArg (World.drewN _) (Nat.add_assoc _ _ _))⟩)))); try go_wp2_with (first | (go_at_call 22; (with_reducible refine (lex_digit.calls (bt s0_0 (ji4)) false _ A7.out).mono ?_); rintro e w' ⟨rfl, ⟨nd, rfl⟩⟩; have p11 : 0 ≤ ((ji4) : Int) := of_decide_eq_true (by first | (with_reducible assumption) | assumption); have q11 : (ji4) < (s0_0.size : Int) := of_decide_eq_true (by first | (with_reducible assumption) | assumption); have hx11 := bt_at s0_0 (ji4); replace p11 := eq_true p11; replace q11 := eq_true q11) | (go_at_call 20; (with_reducible refine (lex_letter.calls (bt s0_0 (ji4)) true _ A12.out).mono ?_); rintro e w' ⟨rfl, ⟨nd, rfl⟩⟩)))
                go_roundg k1
                case measure => have := HK1.out; omega
                case rel => exact ⟨(wrap64 (x5_1 + 1)), (by first | rfl | (simp; done) | (simp [*]; done)), H', ⟨by have := HK1.out; omega⟩, ⟨by repeat (first | (with_reducible first | exact HI0.out | apply IsS51.alloc | apply IsS51.drewN | apply IsS51.drew | apply IsS51.set_0 | apply IsS51.set_1 | apply IsS51.set_2 | apply IsS51.set_3) | exact HI0.out)⟩, ⟨by repeat (first | (with_reducible first | exact HK.out | apply KeepBut.set_ | apply keep_drewN | apply keep_drew | apply keep_alloc) | exact HK.out)⟩, ⟨by repeat (first | (with_reducible first | exact HB.out | apply below_alloc | apply pw_below_drewN | apply below_drew1 | refine below_set ?_ (IsS51.ge HI0.out)) | exact HB.out)⟩, ⟨by repeat (first | (with_reducible first | exact HD.out | apply Drawn0.step) | exact HD.out)⟩⟩
              · replace c13 := Bool.eq_false_iff.mpr c13
                subst c13
                have H1 : (some (x5_1, s0_0, s0_1, s0_2, s0_3)) = some (r1, r2, r3, r4, r5) := by rw [if_neg (show ¬ (false = true) by decide)] at H; exact H
                clear H
                have H := H1
                clear H1
                simp only [Option.some.injEq, Prod.mk.injEq] at H
                obtain ⟨rfl, rfl, rfl, rfl, rfl⟩ := H
                obtain ⟨HGz15, hgz15⟩ := HI0.out
                have hcz15_0 := cellS51_0 HGz15
                have hcz15_1 := cellS51_1 HGz15
                have hcz15_2 := cellS51_2 HGz15
                have hcz15_3 := cellS51_3 HGz15
                have hfz15_0 := blk_frozen HGz15 0
                have hfz15_1 := blk_frozen HGz15 1
                have hfz15_2 := blk_frozen HGz15 2
                have hfz15_3 := blk_frozen HGz15 3
                clear HGz15 hgz15
                have p6 : 0 ≤ ((ji4) : Int) := of_decide_eq_true (by first | (with_reducible assumption) | assumption)
                have q6 : (ji4) < (s0_0.size : Int) := of_decide_eq_true (by first | (with_reducible assumption) | assumption)
                have hx6 := bt_at s0_0 (ji4)
                replace p6 := eq_true p6
                replace q6 := eq_true q6
                go_wp2_with (first | (go_at_call 22; (with_reducible refine (lex_digit.calls (bt s0_0 (ji4)) false _ A7.out).mono ?_); rintro e w' ⟨rfl, ⟨nd, rfl⟩⟩; have p11 : 0 ≤ ((ji4) : Int) := of_decide_eq_true (by first | (with_reducible assumption) | assumption); have q11 : (ji4) < (s0_0.size : Int) := of_decide_eq_true (by first | (with_reducible assumption) | assumption); have hx11 := bt_at s0_0 (ji4); replace p11 := eq_true p11; replace q11 := eq_true q11) | (go_at_call 20; (with_reducible refine (lex_letter.calls (bt s0_0 (ji4)) false _ A12.out).mono ?_); rintro e w' ⟨rfl, ⟨nd, rfl⟩⟩))
                repeat (go_quiet ((first | (go_at_call 22; (with_reducible refine (lex_digit.calls (bt s0_0 (ji4)) false _ A7.out).mono ?_); rintro e w' ⟨rfl, ⟨nd, rfl⟩⟩; have p11 : 0 ≤ ((ji4) : Int) := of_decide_eq_true (by first | (with_reducible assumption) | assumption); have q11 : (ji4) < (s0_0.size : Int) := of_decide_eq_true (by first | (with_reducible assumption) | assumption); have hx11 := bt_at s0_0 (ji4); replace p11 := eq_true p11; replace q11 := eq_true q11; (try first | exact ⟨rfl, _, World.drewN_drewN _ _ _⟩ | exact ⟨rfl, _, Eq.trans (World.drewN_drewN _ _ _) (congrArg (World.drewN _) (Nat.add_assoc _ _ _))⟩)) | (go_at_call 20; (with_reducible refine (lex_letter.calls (bt s0_0 (ji4)) false _ A12.out).mono ?_); rintro e w' ⟨rfl, ⟨nd, rfl⟩⟩; (try first | exact ⟨rfl, _, World.drewN_drewN _ _ _⟩ | exact ⟨rfl, _, Eq.trans (World.drewN_drewN _ _ _) (congrArg (World.drewN _) (Nat.add_assoc _ _ _))⟩)))); try go_wp2_with (first | (go_at_call 22; (with_reducible refine (lex_digit.calls (bt s0_0 (ji4)) false _ A7.out).mono ?_); rintro e w' ⟨rfl, ⟨nd, rfl⟩⟩; have p11 : 0 ≤ ((ji4) : Int) := of_decide_eq_true (by first | (with_reducible assumption) | assumption); have q11 : (ji4) < (s0_0.size : Int) := of_decide_eq_true (by first | (with_reducible assumption) | assumption); have hx11 := bt_at s0_0 (ji4); replace p11 := eq_true p11; replace q11 := eq_true q11) | (go_at_call 20; (with_reducible refine (lex_letter.calls (bt s0_0 (ji4)) false _ A12.out).mono ?_); rintro e w' ⟨rfl, ⟨nd, rfl⟩⟩)))
                go_ret
                exact ⟨by first | rfl | (simp [errW_none, errW_some] <;> rfl) | (simp only [← hji4]; first | rfl | (simp [errW_none, errW_some] <;> rfl)) | (simp [*, errW_none, errW_some] <;> rfl), by repeat (first | (with_reducible first | exact HI0.out | apply IsS51.alloc | apply IsS51.drewN | apply IsS51.drew | apply IsS51.set_0 | apply IsS51.set_1 | apply IsS51.set_2 | apply IsS51.set_3) | exact HI0.out), by repeat (first | (with_reducible first | exact HB.out | apply below_alloc | apply pw_below_drewN | apply below_drew1 | refine below_set ?_ (IsS51.ge HI0.out)) | exact HB.out), by repeat (first | (with_reducible first | exact HK.out | apply KeepBut.set_ | apply keep_drewN | apply keep_drew | apply keep_alloc) | exact HK.out), by repeat (first | (with_reducible first | exact HD.out | apply Drawn0.step) | exact HD.out)⟩
            · replace c10 := Bool.eq_false_iff.mpr c10
              subst c10
              have H1 : (some (x5_1, s0_0, s0_1, s0_2, s0_3)) = some (r1, r2, r3, r4, r5) := by rw [if_neg (show ¬ (false = true) by decide)] at H; exact H
              clear H
              have H := H1
              clear H1
              simp only [Option.some.injEq, Prod.mk.injEq] at H
              obtain ⟨rfl, rfl, rfl, rfl, rfl⟩ := H
              obtain ⟨HGz16, hgz16⟩ := HI0.out
              have hcz16_0 := cellS51_0 HGz16
              have hcz16_1 := cellS51_1 HGz16
              have hcz16_2 := cellS51_2 HGz16
              have hcz16_3 := cellS51_3 HGz16
              have hfz16_0 := blk_frozen HGz16 0
              have hfz16_1 := blk_frozen HGz16 1
              have hfz16_2 := blk_frozen HGz16 2
              have hfz16_3 := blk_frozen HGz16 3
              clear HGz16 hgz16
              have p6 : 0 ≤ ((ji4) : Int) := of_decide_eq_true (by first | (with_reducible assumption) | assumption)
              have q6 : (ji4) < (s0_0.size : Int) := of_decide_eq_true (by first | (with_reducible assumption) | assumption)
              have hx6 := bt_at s0_0 (ji4)
              replace p6 := eq_true p6
              replace q6 := eq_true q6
              go_wp2_with (first | (go_at_call 22; (with_reducible refine (lex_digit.calls (bt s0_0 (ji4)) false _ A7.out).mono ?_); rintro e w' ⟨rfl, ⟨nd, rfl⟩⟩))
              repeat (go_quiet ((first | (go_at_call 22; (with_reducible refine (lex_digit.calls (bt s0_0 (ji4)) false _ A7.out).mono ?_); rintro e w' ⟨rfl, ⟨nd, rfl⟩⟩; (try first | exact ⟨rfl, _, World.drewN_drewN _ _ _⟩ | exact ⟨rfl, _, Eq.trans (World.drewN_drewN _ _ _) (congrArg (World.drewN _) (Nat.add_assoc _ _ _))⟩)))); try go_wp2_with (first | (go_at_call 22; (with_reducible refine (lex_digit.calls (bt s0_0 (ji4)) false _ A7.out).mono ?_); rintro e w' ⟨rfl, ⟨nd, rfl⟩⟩)))
              go_ret
              exact ⟨by first | rfl | (simp [errW_none, errW_some] <;> rfl) | (simp only [← hji4]; first | rfl | (simp [errW_none, errW_some] <;> rfl)) | (simp [*, errW_none, errW_some] <;> rfl), by repeat (first | (with_reducible first | exact HI0.out | apply IsS51.alloc | apply IsS51.drewN | apply IsS51.drew | apply IsS51.set_0 | apply IsS51.set_1 | apply IsS51.set_2 | apply IsS51.set_3) | exact HI0.out), by repeat (first | (with_reducible first | exact HB.out | apply below_alloc | apply pw_below_drewN | apply below_drew1 | refine below_set ?_ (IsS51.ge HI0.out)) | exact HB.out), by repeat (first | (with_reducible first | exact HK.out | apply KeepBut.set_ | apply keep_drewN | apply keep_drew | apply keep_alloc) | exact HK.out), by repeat (first | (with_reducible first | exact HD.out | apply Drawn0.step) | exact HD.out)⟩
        · rw [if_neg c5] at H
          exact absurd H (by simp)
      · rw [if_neg c3] at H
        have c3b0 : decide ((wrap64 (s0_1 + x5_1)) < (s0_0.size : Int)) = false := decide_eq_false c3
        clear c3
        simp only [Option.some.injEq, Prod.mk.injEq] at H
        obtain ⟨rfl, rfl, rfl, rfl, rfl⟩ := H
        obtain ⟨HGz17, hgz17⟩ := HI0.out
        have hcz17_0 := cellS51_0 HGz17
        have hcz17_1 := cellS51_1 HGz17
        have hcz17_2 := cellS51_2 HGz17
        have hcz17_3 := cellS51_3 HGz17
        have hfz17_0 := blk_frozen HGz17 0
        have hfz17_1 := blk_frozen HGz17 1
        have hfz17_2 := blk_frozen HGz17 2
        have hfz17_3 := blk_frozen HGz17 3
        clear HGz17 hgz17
        go_wp2
        repeat (go_quiet (fail); try go_wp2)
        go_ret
        exact ⟨by first | rfl | (simp [errW_none, errW_some] <;> rfl) | (simp [*, errW_none, errW_some] <;> rfl), by repeat (first | (with_reducible first | exact HI0.out | apply IsS51.alloc | apply IsS51.drewN | apply IsS51.drew | apply IsS51.set_0 | apply IsS51.set_1 | apply IsS51.set_2 | apply IsS51.set_3) | exact HI0.out), by repeat (first | (with_reducible first | exact HB.out | apply below_alloc | apply pw_below_drewN | apply below_drew1 | refine below_set ?_ (IsS51.ge HI0.out)) | exact HB.out), by repeat (first | (with_reducible first | exact HK.out | apply KeepBut.set_ | apply keep_drewN | apply keep_drew | apply keep_alloc) | exact HK.out), by repeat (first | (with_reducible first | exact HD.out | apply Drawn0.step) | exact HD.out)⟩


end Go.Proofs.YtfljigegjhnidaaDoor.B
