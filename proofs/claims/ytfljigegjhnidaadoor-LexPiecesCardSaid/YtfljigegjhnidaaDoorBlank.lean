/- What (*lexer).blank does: out of the kit's print, changed by a program of mine. -/
import Derived.Test.YtfljigegjhnidaaDoorBx2
import Derived.Test.YtfljigegjhnidaaDoorBx3
namespace Go.Proofs.YtfljigegjhnidaaDoor.B
open Go.RowKit Go.Proofs.YtfljigegjhnidaaDoorW.PrintWords Go.Proofs.YtfljigegjhnidaaDoorW.PrintLast Go.Proofs.YtfljigegjhnidaaDoorW.PrintMore
attribute [local go_sem] max2_int min2_int max_two min_two max_three min_three max_four min_four   -- for this text's walks alone
set_option linter.unusedVariables false
set_option linter.unusedSimpArgs false

attribute [local go_sem high] eqA28
/-! ### lex_lexer_blank: function 19 -/
mutual
def lex_lexer_blank.l0 : Nat → ByteArray → Int → Int → Int → Option (ByteArray × Int × Int × Int)
  | 0, _, _, _, _ => none
  | k + 1, x1000, x1001, x1002, x1003 => if x1001 < (x1000.size : Int) then (if 0 ≤ x1001 then (if (bt x1000 x1001) = 32 then (lex_lexer_blank.j1 k true x1000 x1001 x1002 x1003) else (if (bt x1000 x1001) = 9 then (lex_lexer_blank.j1 k true x1000 x1001 x1002 x1003) else (if (bt x1000 x1001) = 10 then (lex_lexer_blank.j1 k true x1000 x1001 x1002 x1003) else (lex_lexer_blank.j1 k ((bt x1000 x1001) == 13) x1000 x1001 x1002 x1003)))) else (none)) else (some (x1000, x1001, x1002, x1003))
def lex_lexer_blank.j1 : Nat → Bool → ByteArray → Int → Int → Int → Option (ByteArray × Int × Int × Int)
  | 0, _, _, _, _, _ => none
  | k + 1, x23, x1000, x1001, x1002, x1003 => if x23 = true then ((lex_lexer_skip.f k x1000 x1001 x1002 x1003 1).bind fun bt104 => (lex_lexer_blank.l0 k bt104.1 bt104.2.1 bt104.2.2.1 bt104.2.2.2)) else (if 0 ≤ x1001 then (if x1001 ≤ (x1000.size : Int) then ((strings_HasPrefix.f (x1000.extract (x1001 : Int).toNat x1000.size) (⟨#[47, 47]⟩ : ByteArray)).bind fun t108 => (if t108 = true then ((strings_IndexByte.f (x1000.extract (x1001 : Int).toNat x1000.size) 10).bind fun t109 => (if t109 < 0 then ((lex_lexer_skip.f k x1000 x1001 x1002 x1003 (wrap64 ((x1000.size : Int) - x1001))).bind fun bt110 => (lex_lexer_blank.l0 k bt110.1 bt110.2.1 bt110.2.2.1 bt110.2.2.2)) else ((lex_lexer_skip.f k x1000 x1001 x1002 x1003 t109).bind fun bt114 => (lex_lexer_blank.l0 k bt114.1 bt114.2.1 bt114.2.2.1 bt114.2.2.2)))) else (some (x1000, x1001, x1002, x1003)))) else (none)) else (none))
end
def lex_lexer_blank.f (k : Nat) (s0_0 : ByteArray) (s0_1 : Int) (s0_2 : Int) (s0_3 : Int) : Option (ByteArray × Int × Int × Int) := lex_lexer_blank.l0 k s0_0 s0_1 s0_2 s0_3
theorem lex_lexer_blank.mono_l : ∀ k, (∀ y0 y1 y2 y3, LeO (lex_lexer_blank.l0 k y0 y1 y2 y3) (lex_lexer_blank.l0 (k + 1) y0 y1 y2 y3)) ∧ (∀ y0 y1 y2 y3 y4, LeO (lex_lexer_blank.j1 k y0 y1 y2 y3 y4) (lex_lexer_blank.j1 (k + 1) y0 y1 y2 y3 y4))
  | 0 => ⟨fun _ _ _ _ r h => by simp [lex_lexer_blank.l0] at h, fun _ _ _ _ _ r h => by simp [lex_lexer_blank.j1] at h⟩
  | k + 1 => by
    obtain ⟨ih0, ih1⟩ := lex_lexer_blank.mono_l k
    refine ⟨?_, ?_⟩
    · intro y0 y1 y2 y3
      unfold lex_lexer_blank.l0
      repeat' first
      | (with_reducible exact ih0 _ _ _ _)
      | (with_reducible exact ih1 _ _ _ _ _)
      | (with_reducible exact lex_lexer_skip.mono _ _ _ _ _ _)
      | (with_reducible exact LeO.refl _)
      | (with_reducible exact LeO.none _)
      | (with_reducible refine LeO.ite ?_ ?_)
      | (with_reducible refine LeO.bind ?_ (fun _ => ?_))
      | exact ih0 _ _ _ _
      | exact ih1 _ _ _ _ _
      | exact lex_lexer_skip.mono _ _ _ _ _ _
      | exact LeO.none _
      | refine LeO.ite ?_ ?_
      | refine LeO.bind ?_ (fun _ => ?_)
    · intro y0 y1 y2 y3 y4
      unfold lex_lexer_blank.j1
      repeat' first
      | (with_reducible exact ih0 _ _ _ _)
      | (with_reducible exact ih1 _ _ _ _ _)
      | (with_reducible exact lex_lexer_skip.mono _ _ _ _ _ _)
      | (with_reducible exact LeO.refl _)
      | (with_reducible exact LeO.none _)
      | (with_reducible refine LeO.ite ?_ ?_)
      | (with_reducible refine LeO.bind ?_ (fun _ => ?_))
      | exact ih0 _ _ _ _
      | exact ih1 _ _ _ _ _
      | exact lex_lexer_skip.mono _ _ _ _ _ _
      | exact LeO.none _
      | refine LeO.ite ?_ ?_
      | refine LeO.bind ?_ (fun _ => ?_)
theorem lex_lexer_blank.mono : ∀ a0 a1 a2 a3 k, LeO (lex_lexer_blank.f k a0 a1 a2 a3) (lex_lexer_blank.f (k + 1) a0 a1 a2 a3) := by
  intro a0 a1 a2 a3 k
  obtain ⟨ih0, ih1⟩ := lex_lexer_blank.mono_l k
  unfold lex_lexer_blank.f
  repeat' first
      | (with_reducible exact ih0 _ _ _ _)
      | (with_reducible exact ih1 _ _ _ _ _)
      | (with_reducible exact lex_lexer_skip.mono _ _ _ _ _ _)
      | (with_reducible exact LeO.refl _)
      | (with_reducible exact LeO.none _)
      | (with_reducible refine LeO.ite ?_ ?_)
      | (with_reducible refine LeO.bind ?_ (fun _ => ?_))
      | exact ih0 _ _ _ _
      | exact ih1 _ _ _ _ _
      | exact lex_lexer_skip.mono _ _ _ _ _ _
      | exact LeO.none _
      | refine LeO.ite ?_ ?_
      | refine LeO.bind ?_ (fun _ => ?_)
set_option maxHeartbeats 8000000 in
set_option maxRecDepth 100000 in
theorem lex_lexer_blank.calls (k : Nat) (g : Nat) (s0_0 : ByteArray) (s0_1 : Int) (s0_2 : Int) (s0_3 : Int) (r1 : ByteArray) (r2 : Int) (r3 : Int) (r4 : Int) (w0 w : World) (hI : IsS51 w0 w g s0_0 s0_1 s0_2 s0_3) (hB : Below w0.heap.size w0 w) (h : lex_lexer_blank.f k s0_0 s0_1 s0_2 s0_3 = some (r1, r2, r3, r4)) :
    Calls Tryd.prog 19 #[.pointer (some ⟨g, 0, none⟩)] w fun e w' => e = .returned (.tuple #[]) ∧ IsS51 w0 w' g r1 r2 r3 r4 ∧ Below w0.heap.size w0 w' ∧ KeepBut w w' g none := by
  have HI0 := Aside0.mk hI
  have HK := Aside0.mk (KeepBut.refl w g none)
  have HL := Aside0.mk hB.size
  clear hI
  have HW0 := Aside0.mk hB.size
  have HB := Aside0.mk hB
  clear hB
  have H : (lex_lexer_blank.l0 k s0_0 s0_1 s0_2 s0_3) = some (r1, r2, r3, r4) := h
  clear h
  have H' := Aside0.mk H
  clear H
  go_enter Tryd.func19, Tryd.ntmps19
  go_wp2
  repeat (go_quiet (fail); try go_wp2)
  go_loopg [] k (fun kq w' => ∃ (x1000_1 : ByteArray) (x1001_1 : Int) (x1002_1 : Int) (x1003_1 : Int), Aside0 (lex_lexer_blank.l0 kq x1000_1 x1001_1 x1002_1 x1003_1 = some (r1, r2, r3, r4)) ∧ Aside0 (kq ≤ k) ∧ Aside0 (IsS51 w0 w' g x1000_1 x1001_1 x1002_1 x1003_1) ∧ Aside0 (KeepBut w w' g none) ∧ Aside0 (Below w0.heap.size w0 w'))
  case atStart => exact ⟨(s0_0), (s0_1), (s0_2), (s0_3), H', ⟨Nat.le_refl _⟩, ⟨by repeat (first | (with_reducible first | exact HI0.out | apply IsS51.alloc | apply IsS51.drewN | apply IsS51.drew | apply IsS51.set_0 | apply IsS51.set_1 | apply IsS51.set_2 | apply IsS51.set_3) | exact HI0.out)⟩, ⟨by repeat (first | (with_reducible first | exact HK.out | apply KeepBut.set_ | apply keep_drewN | apply keep_drew | apply keep_alloc) | exact HK.out)⟩, ⟨by repeat (first | (with_reducible first | exact HB.out | apply below_alloc | apply pw_below_drewN | apply below_drew1 | refine below_set ?_ (IsS51.ge HI0.out)) | exact HB.out)⟩⟩
  case round =>
    clear H'
    try clear c1
    obtain ⟨x1000_1, x1001_1, x1002_1, x1003_1, HA, HK1, HI0, HK, HB⟩ := hrel
    cases gk with
    | zero => exact absurd HA.out (by simp [lex_lexer_blank.l0])
    | succ k1 =>
      have H := HA.out
      clear HA
      simp only [lex_lexer_blank.l0] at H
      by_cases c2 : x1001_1 < (x1000_1.size : Int)
      · rw [if_pos c2] at H
        have c2b0 : decide (x1001_1 < (x1000_1.size : Int)) = true := decide_eq_true c2
        clear c2
        by_cases c3 : 0 ≤ x1001_1
        · rw [if_pos c3] at H
          have c3b0 : decide (0 ≤ x1001_1) = true := decide_eq_true c3
          clear c3
          have HC5 := Aside0.mk H
          clear H
          obtain ⟨HGz6, hgz6⟩ := HI0.out
          have hcz6_0 := cellS51_0 HGz6
          have hcz6_1 := cellS51_1 HGz6
          have hcz6_2 := cellS51_2 HGz6
          have hcz6_3 := cellS51_3 HGz6
          have hfz6_0 := blk_frozen HGz6 0
          have hfz6_1 := blk_frozen HGz6 1
          have hfz6_2 := blk_frozen HGz6 2
          have hfz6_3 := blk_frozen HGz6 3
          clear HGz6 hgz6
          have p4 : 0 ≤ (x1001_1 : Int) := of_decide_eq_true (by first | (with_reducible assumption) | assumption)
          have q4 : x1001_1 < (x1000_1.size : Int) := of_decide_eq_true (by first | (with_reducible assumption) | assumption)
          have hx4 := bt_at x1000_1 x1001_1
          replace p4 := eq_true p4
          replace q4 := eq_true q4
          try go_wp2
          go_quiet (fail)
          go_wp2
          go_quiet (fail)
          go_upto_region 2 with (fail)
          go_cut [23] (fun v23 wc => ∃ (kq : Nat) (x23_4 : Bool), v23 = .bool x23_4 ∧ Aside0 (lex_lexer_blank.j1 kq x23_4 x1000_1 x1001_1 x1002_1 x1003_1 = some (r1, r2, r3, r4)) ∧ Aside0 (kq ≤ k1) ∧ Aside0 (IsS51 w0 wc g x1000_1 x1001_1 x1002_1 x1003_1) ∧ Aside0 (KeepBut w wc g none) ∧ Aside0 (Below w0.heap.size w0 wc))
          case first =>
            have H := HC5.out
            clear HC5
            by_cases c7 : (bt x1000_1 x1001_1) = 32
            · rw [if_pos c7] at H
              have c7b0 : ((bt x1000_1 x1001_1) == 32) = true := beq_iff_eq.mpr c7
              have c7b1 : ((bt x1000_1 x1001_1) != 32) = false := bne_eq_false_iff_eq.mpr c7
              clear c7
              (first | rw [c7b0] | (simp only [i64_w, i32_w]; rw [c7b0]) | skip)
              have H' := Aside0.mk H
              clear H
              go_wp2
              repeat (go_quiet (fail); try go_wp2)
              go_meet
              case rel => exact ⟨_, (true), (by first | rfl | (simp; done) | (simp [*]; done)), H', ⟨by have := HK1.out; first | omega | exact Nat.le_refl _⟩, ⟨by repeat (first | (with_reducible first | exact HI0.out | apply IsS51.alloc | apply IsS51.drewN | apply IsS51.drew | apply IsS51.set_0 | apply IsS51.set_1 | apply IsS51.set_2 | apply IsS51.set_3) | exact HI0.out)⟩, ⟨by repeat (first | (with_reducible first | exact HK.out | apply KeepBut.set_ | apply keep_drewN | apply keep_drew | apply keep_alloc) | exact HK.out)⟩, ⟨by repeat (first | (with_reducible first | exact HB.out | apply below_alloc | apply pw_below_drewN | apply below_drew1 | refine below_set ?_ (IsS51.ge HI0.out)) | exact HB.out)⟩⟩
            · rw [if_neg c7] at H
              have c7b0 : ((bt x1000_1 x1001_1) == 32) = false := beq_eq_false_iff_ne.mpr c7
              have c7b1 : ((bt x1000_1 x1001_1) != 32) = true := bne_iff_ne.mpr c7
              (first | rw [c7b0] | (simp only [i64_w, i32_w]; rw [c7b0]) | skip)
              by_cases c8 : (bt x1000_1 x1001_1) = 9
              · rw [if_pos c8] at H
                have c8b0 : ((bt x1000_1 x1001_1) == 9) = true := beq_iff_eq.mpr c8
                have c8b1 : ((bt x1000_1 x1001_1) != 9) = false := bne_eq_false_iff_eq.mpr c8
                clear c8
                have H' := Aside0.mk H
                clear H
                go_wp2
                repeat (go_quiet (fail); try go_wp2)
                go_meet
                case rel => exact ⟨_, (true), (by first | rfl | (simp; done) | (simp [*]; done)), H', ⟨by have := HK1.out; first | omega | exact Nat.le_refl _⟩, ⟨by repeat (first | (with_reducible first | exact HI0.out | apply IsS51.alloc | apply IsS51.drewN | apply IsS51.drew | apply IsS51.set_0 | apply IsS51.set_1 | apply IsS51.set_2 | apply IsS51.set_3) | exact HI0.out)⟩, ⟨by repeat (first | (with_reducible first | exact HK.out | apply KeepBut.set_ | apply keep_drewN | apply keep_drew | apply keep_alloc) | exact HK.out)⟩, ⟨by repeat (first | (with_reducible first | exact HB.out | apply below_alloc | apply pw_below_drewN | apply below_drew1 | refine below_set ?_ (IsS51.ge HI0.out)) | exact HB.out)⟩⟩
              · rw [if_neg c8] at H
                have c8b0 : ((bt x1000_1 x1001_1) == 9) = false := beq_eq_false_iff_ne.mpr c8
                have c8b1 : ((bt x1000_1 x1001_1) != 9) = true := bne_iff_ne.mpr c8
                by_cases c9 : (bt x1000_1 x1001_1) = 10
                · rw [if_pos c9] at H
                  have c9b0 : ((bt x1000_1 x1001_1) == 10) = true := beq_iff_eq.mpr c9
                  have c9b1 : ((bt x1000_1 x1001_1) != 10) = false := bne_eq_false_iff_eq.mpr c9
                  clear c9
                  have H' := Aside0.mk H
                  clear H
                  go_wp2
                  repeat (go_quiet (fail); try go_wp2)
                  go_meet
                  case rel => exact ⟨_, (true), (by first | rfl | (simp; done) | (simp [*]; done)), H', ⟨by have := HK1.out; first | omega | exact Nat.le_refl _⟩, ⟨by repeat (first | (with_reducible first | exact HI0.out | apply IsS51.alloc | apply IsS51.drewN | apply IsS51.drew | apply IsS51.set_0 | apply IsS51.set_1 | apply IsS51.set_2 | apply IsS51.set_3) | exact HI0.out)⟩, ⟨by repeat (first | (with_reducible first | exact HK.out | apply KeepBut.set_ | apply keep_drewN | apply keep_drew | apply keep_alloc) | exact HK.out)⟩, ⟨by repeat (first | (with_reducible first | exact HB.out | apply below_alloc | apply pw_below_drewN | apply below_drew1 | refine below_set ?_ (IsS51.ge HI0.out)) | exact HB.out)⟩⟩
                · rw [if_neg c9] at H
                  have c9b0 : ((bt x1000_1 x1001_1) == 10) = false := beq_eq_false_iff_ne.mpr c9
                  have c9b1 : ((bt x1000_1 x1001_1) != 10) = true := bne_iff_ne.mpr c9
                  have H' := Aside0.mk H
                  clear H
                  go_wp2
                  repeat (go_quiet (fail); try go_wp2)
                  go_meet
                  case rel => exact ⟨_, (((bt x1000_1 x1001_1) == 13)), (by first | rfl | (simp; done) | (simp [*]; done)), H', ⟨by have := HK1.out; first | omega | exact Nat.le_refl _⟩, ⟨by repeat (first | (with_reducible first | exact HI0.out | apply IsS51.alloc | apply IsS51.drewN | apply IsS51.drew | apply IsS51.set_0 | apply IsS51.set_1 | apply IsS51.set_2 | apply IsS51.set_3) | exact HI0.out)⟩, ⟨by repeat (first | (with_reducible first | exact HK.out | apply KeepBut.set_ | apply keep_drewN | apply keep_drew | apply keep_alloc) | exact HK.out)⟩, ⟨by repeat (first | (with_reducible first | exact HB.out | apply below_alloc | apply pw_below_drewN | apply below_drew1 | refine below_set ?_ (IsS51.ge HI0.out)) | exact HB.out)⟩⟩
          case rest =>
            clear HC5
            try clear c1
            try clear c2
            try clear c2b0
            try clear p2
            try clear c3
            try clear c3b0
            try clear p4
            try clear q4
            try clear hx4
            try clear c7
            try clear c7b0
            try clear c7b1
            try clear c8
            try clear c8b0
            try clear c8b1
            try clear c9
            try clear c9b0
            try clear c9b1
            try clear hcz6_0
            try clear hcz6_1
            try clear hcz6_2
            try clear hcz6_3
            try clear hfz6_0
            try clear hfz6_1
            try clear hfz6_2
            try clear hfz6_3
            try clear p4
            try clear q4
            obtain ⟨kq, x23_4, rfl, HA, HJ4, HI0, HK, HB⟩ := hcut
            cases kq with
            | zero => exact absurd HA.out (by simp [lex_lexer_blank.j1])
            | succ kj4 =>
              have H := HA.out
              clear HA
              simp only [lex_lexer_blank.j1] at H
              by_cases c10 : x23_4 = true
              · subst c10
                have H1 : ((lex_lexer_skip.f kj4 x1000_1 x1001_1 x1002_1 x1003_1 1).bind fun bt104 => (lex_lexer_blank.l0 kj4 bt104.1 bt104.2.1 bt104.2.2.1 bt104.2.2.2)) = some (r1, r2, r3, r4) := by rw [if_pos rfl] at H; exact H
                clear H
                have H := H1
                clear H1
                replace H := Option.bind_eq_some_iff.mp H
                obtain ⟨⟨t104, t105, t106, t107⟩, A110, H⟩ := H
                replace H : (lex_lexer_blank.l0 kj4 t104 t105 t106 t107) = some (r1, r2, r3, r4) := H
                have A11 := Aside0.mk A110
                clear A110
                have H' := Aside0.mk H
                clear H
                go_wp2_with (first | ((with_reducible refine gate_callee (f := 25) rfl ?_); refine goesL_ (some 39) rfl rfl Tryd.func25 (by kernel_rfl) rfl #[.pointer (some ⟨g, 0, none⟩), .int .i64 1] rfl (by (try simp only [List.map_toArray, List.map_cons, List.map_nil]); first | done | rfl | (simp only [List.length_drop, List.length_take]; rfl)) ?_; (with_reducible refine (lex_lexer_skip.calls kj4 g x1000_1 x1001_1 x1002_1 x1003_1 1 t104 t105 t106 t107 w0 _ ?side1 ?side2 A11.out).mono ?_); (case side1 => repeat (first | (with_reducible first | exact HI0.out | apply IsS51.alloc | apply IsS51.drewN | apply IsS51.drew | apply IsS51.set_0 | apply IsS51.set_1 | apply IsS51.set_2 | apply IsS51.set_3) | exact HI0.out)); (case side2 => repeat (first | (with_reducible first | exact HB.out | apply below_alloc | apply pw_below_drewN | apply below_drew1 | refine below_set ?_ (IsS51.ge HI0.out)) | exact HB.out)); rintro e w12 ⟨rfl, hi, hb, hk⟩; refine ⟨_, rfl, ?_⟩; have n0_ := Aside0.mk (KeepBut.trans (by repeat (first | (with_reducible first | exact HK.out | apply KeepBut.set_ | apply keep_drewN | apply keep_drew | apply keep_alloc) | exact HK.out)) hk (.inl rfl)); have n1_ := Aside0.mk (hb); have n2_ := Aside0.mk (hi); clear HK; clear HB; clear HI0; have HK := n0_; have HB := n1_; have HI0 := n2_; clear n0_ n1_ n2_; (try clear hb); (try clear hb2); (try clear hk); (try clear hi)))
                repeat (go_quiet (fail); try go_wp2_with (first | ((with_reducible refine gate_callee (f := 25) rfl ?_); refine goesL_ (some 39) rfl rfl Tryd.func25 (by kernel_rfl) rfl #[.pointer (some ⟨g, 0, none⟩), .int .i64 1] rfl (by (try simp only [List.map_toArray, List.map_cons, List.map_nil]); first | done | rfl | (simp only [List.length_drop, List.length_take]; rfl)) ?_; (with_reducible refine (lex_lexer_skip.calls kj4 g x1000_1 x1001_1 x1002_1 x1003_1 1 t104 t105 t106 t107 w0 _ ?side1 ?side2 A11.out).mono ?_); (case side1 => repeat (first | (with_reducible first | exact HI0.out | apply IsS51.alloc | apply IsS51.drewN | apply IsS51.drew | apply IsS51.set_0 | apply IsS51.set_1 | apply IsS51.set_2 | apply IsS51.set_3) | exact HI0.out)); (case side2 => repeat (first | (with_reducible first | exact HB.out | apply below_alloc | apply pw_below_drewN | apply below_drew1 | refine below_set ?_ (IsS51.ge HI0.out)) | exact HB.out)); rintro e w12 ⟨rfl, hi, hb, hk⟩; refine ⟨_, rfl, ?_⟩; have n0_ := Aside0.mk (KeepBut.trans (by repeat (first | (with_reducible first | exact HK.out | apply KeepBut.set_ | apply keep_drewN | apply keep_drew | apply keep_alloc) | exact HK.out)) hk (.inl rfl)); have n1_ := Aside0.mk (hb); have n2_ := Aside0.mk (hi); clear HK; clear HB; clear HI0; have HK := n0_; have HB := n1_; have HI0 := n2_; clear n0_ n1_ n2_; (try clear hb); (try clear hb2); (try clear hk); (try clear hi))))
                go_roundg kj4
                case measure => have := HK1.out; have := HJ4.out; omega
                case rel => exact ⟨(t104), (t105), (t106), (t107), H', ⟨by have := HK1.out; have := HJ4.out; omega⟩, ⟨by repeat (first | (with_reducible first | exact HI0.out | apply IsS51.alloc | apply IsS51.drewN | apply IsS51.drew | apply IsS51.set_0 | apply IsS51.set_1 | apply IsS51.set_2 | apply IsS51.set_3) | exact HI0.out)⟩, ⟨by repeat (first | (with_reducible first | exact HK.out | apply KeepBut.set_ | apply keep_drewN | apply keep_drew | apply keep_alloc) | exact HK.out)⟩, ⟨by repeat (first | (with_reducible first | exact HB.out | apply below_alloc | apply pw_below_drewN | apply below_drew1 | refine below_set ?_ (IsS51.ge HI0.out)) | exact HB.out)⟩⟩
              · replace c10 := Bool.eq_false_iff.mpr c10
                subst c10
                have H1 : (if 0 ≤ x1001_1 then (if x1001_1 ≤ (x1000_1.size : Int) then ((strings_HasPrefix.f (x1000_1.extract (x1001_1 : Int).toNat x1000_1.size) (⟨#[47, 47]⟩ : ByteArray)).bind fun t108 => (if t108 = true then ((strings_IndexByte.f (x1000_1.extract (x1001_1 : Int).toNat x1000_1.size) 10).bind fun t109 => (if t109 < 0 then ((lex_lexer_skip.f kj4 x1000_1 x1001_1 x1002_1 x1003_1 (wrap64 ((x1000_1.size : Int) - x1001_1))).bind fun bt110 => (lex_lexer_blank.l0 kj4 bt110.1 bt110.2.1 bt110.2.2.1 bt110.2.2.2)) else ((lex_lexer_skip.f kj4 x1000_1 x1001_1 x1002_1 x1003_1 t109).bind fun bt114 => (lex_lexer_blank.l0 kj4 bt114.1 bt114.2.1 bt114.2.2.1 bt114.2.2.2)))) else (some (x1000_1, x1001_1, x1002_1, x1003_1)))) else (none)) else (none)) = some (r1, r2, r3, r4) := by rw [if_neg (show ¬ (false = true) by decide)] at H; exact H
                clear H
                have H := H1
                clear H1
                by_cases c13 : 0 ≤ x1001_1
                · rw [if_pos c13] at H
                  have c13b0 := eq_true c13
                  have c13b1 : decide (0 ≤ x1001_1) = true := decide_eq_true c13
                  clear c13
                  by_cases c14 : x1001_1 ≤ (x1000_1.size : Int)
                  · rw [if_pos c14] at H
                    have c14b0 := eq_true c14
                    have c14b1 : decide (x1001_1 ≤ (x1000_1.size : Int)) = true := decide_eq_true c14
                    clear c14
                    replace H := Option.bind_eq_some_iff.mp H
                    obtain ⟨t108, A150, H⟩ := H
                    replace H : (if t108 = true then ((strings_IndexByte.f (x1000_1.extract (x1001_1 : Int).toNat x1000_1.size) 10).bind fun t109 => (if t109 < 0 then ((lex_lexer_skip.f kj4 x1000_1 x1001_1 x1002_1 x1003_1 (wrap64 ((x1000_1.size : Int) - x1001_1))).bind fun bt110 => (lex_lexer_blank.l0 kj4 bt110.1 bt110.2.1 bt110.2.2.1 bt110.2.2.2)) else ((lex_lexer_skip.f kj4 x1000_1 x1001_1 x1002_1 x1003_1 t109).bind fun bt114 => (lex_lexer_blank.l0 kj4 bt114.1 bt114.2.1 bt114.2.2.1 bt114.2.2.2)))) else (some (x1000_1, x1001_1, x1002_1, x1003_1))) = some (r1, r2, r3, r4) := H
                    have A15 := Aside0.mk A150
                    clear A150
                    by_cases c16 : t108 = true
                    · subst c16
                      have H1 : ((strings_IndexByte.f (x1000_1.extract (x1001_1 : Int).toNat x1000_1.size) 10).bind fun t109 => (if t109 < 0 then ((lex_lexer_skip.f kj4 x1000_1 x1001_1 x1002_1 x1003_1 (wrap64 ((x1000_1.size : Int) - x1001_1))).bind fun bt110 => (lex_lexer_blank.l0 kj4 bt110.1 bt110.2.1 bt110.2.2.1 bt110.2.2.2)) else ((lex_lexer_skip.f kj4 x1000_1 x1001_1 x1002_1 x1003_1 t109).bind fun bt114 => (lex_lexer_blank.l0 kj4 bt114.1 bt114.2.1 bt114.2.2.1 bt114.2.2.2)))) = some (r1, r2, r3, r4) := by rw [if_pos rfl] at H; exact H
                      clear H
                      have H := H1
                      clear H1
                      have c17b0 := eq_true (of_decide_eq_true (by first | (with_reducible assumption) | assumption) : 0 ≤ x1001_1)
                      have c18b0 := eq_true (of_decide_eq_true (by first | (with_reducible assumption) | assumption) : x1001_1 ≤ (x1000_1.size : Int))
                      replace H := Option.bind_eq_some_iff.mp H
                      obtain ⟨t109, A190, H⟩ := H
                      replace H : (if t109 < 0 then ((lex_lexer_skip.f kj4 x1000_1 x1001_1 x1002_1 x1003_1 (wrap64 ((x1000_1.size : Int) - x1001_1))).bind fun bt110 => (lex_lexer_blank.l0 kj4 bt110.1 bt110.2.1 bt110.2.2.1 bt110.2.2.2)) else ((lex_lexer_skip.f kj4 x1000_1 x1001_1 x1002_1 x1003_1 t109).bind fun bt114 => (lex_lexer_blank.l0 kj4 bt114.1 bt114.2.1 bt114.2.2.1 bt114.2.2.2))) = some (r1, r2, r3, r4) := H
                      have A19 := Aside0.mk A190
                      clear A190
                      by_cases c20 : t109 < 0
                      · rw [if_pos c20] at H
                        have c20b0 : decide (t109 < 0) = true := decide_eq_true c20
                        clear c20
                        replace H := Option.bind_eq_some_iff.mp H
                        obtain ⟨⟨t110, t111, t112, t113⟩, A210, H⟩ := H
                        replace H : (lex_lexer_blank.l0 kj4 t110 t111 t112 t113) = some (r1, r2, r3, r4) := H
                        have A21 := Aside0.mk A210
                        clear A210
                        have H' := Aside0.mk H
                        clear H
                        obtain ⟨HGz22, hgz22⟩ := HI0.out
                        have hcz22_0 := cellS51_0 HGz22
                        have hcz22_1 := cellS51_1 HGz22
                        have hcz22_2 := cellS51_2 HGz22
                        have hcz22_3 := cellS51_3 HGz22
                        have hfz22_0 := blk_frozen HGz22 0
                        have hfz22_1 := blk_frozen HGz22 1
                        have hfz22_2 := blk_frozen HGz22 2
                        have hfz22_3 := blk_frozen HGz22 3
                        clear HGz22 hgz22
                        go_wp2_with (first | ((with_reducible refine gate_callee (f := 24) rfl ?_); refine goesL_ (some 50) rfl rfl Tryd.func24 (by kernel_rfl) rfl #[.string (x1000_1.extract (x1001_1 : Int).toNat x1000_1.size), .string (⟨#[47, 47]⟩ : ByteArray)] rfl (by (try simp only [List.map_toArray, List.map_cons, List.map_nil]); first | done | rfl | (simp only [List.length_drop, List.length_take]; rfl)) ?_; (with_reducible refine (strings_HasPrefix.calls (x1000_1.extract (x1001_1 : Int).toNat x1000_1.size) (⟨#[47, 47]⟩ : ByteArray) true _ A15.out).mono ?_); rintro e w' ⟨rfl, ⟨nd, rfl⟩⟩; refine ⟨_, rfl, ?_⟩) | ((with_reducible refine gate_callee (f := 31) rfl ?_); refine goesL_ (some 60) rfl rfl Tryd.func31 (by kernel_rfl) rfl #[.string (x1000_1.extract (x1001_1 : Int).toNat x1000_1.size), .int .u8 10] rfl (by (try simp only [List.map_toArray, List.map_cons, List.map_nil]); first | done | rfl | (simp only [List.length_drop, List.length_take]; rfl)) ?_; (with_reducible refine (strings_IndexByte.calls (x1000_1.extract (x1001_1 : Int).toNat x1000_1.size) 10 t109 _ A19.out).mono ?_); rintro e w' ⟨rfl, ⟨nd, rfl⟩⟩; refine ⟨_, rfl, ?_⟩) | ((with_reducible refine gate_callee (f := 25) rfl ?_); refine goesL_ (some 75) rfl rfl Tryd.func25 (by kernel_rfl) rfl #[.pointer (some ⟨g, 0, none⟩), .int .i64 (wrap64 ((x1000_1.size : Int) - x1001_1))] rfl (by (try simp only [List.map_toArray, List.map_cons, List.map_nil]); first | done | rfl | (simp only [List.length_drop, List.length_take]; rfl)) ?_; (with_reducible refine (lex_lexer_skip.calls kj4 g x1000_1 x1001_1 x1002_1 x1003_1 (wrap64 ((x1000_1.size : Int) - x1001_1)) t110 t111 t112 t113 w0 _ ?side1 ?side2 A21.out).mono ?_); (case side1 => repeat (first | (with_reducible first | exact HI0.out | apply IsS51.alloc | apply IsS51.drewN | apply IsS51.drew | apply IsS51.set_0 | apply IsS51.set_1 | apply IsS51.set_2 | apply IsS51.set_3) | exact HI0.out)); (case side2 => repeat (first | (with_reducible first | exact HB.out | apply below_alloc | apply pw_below_drewN | apply below_drew1 | refine below_set ?_ (IsS51.ge HI0.out)) | exact HB.out)); rintro e w23 ⟨rfl, hi, hb, hk⟩; refine ⟨_, rfl, ?_⟩; have n0_ := Aside0.mk (KeepBut.trans (by repeat (first | (with_reducible first | exact HK.out | apply KeepBut.set_ | apply keep_drewN | apply keep_drew | apply keep_alloc) | exact HK.out)) hk (.inl rfl)); have n1_ := Aside0.mk (hb); have n2_ := Aside0.mk (hi); clear HK; clear HB; clear HI0; have HK := n0_; have HB := n1_; have HI0 := n2_; clear n0_ n1_ n2_; (try clear hb); (try clear hb2); (try clear hk); (try clear hi)))
                        repeat (go_quiet ((first | (go_at_call 24; (with_reducible refine (strings_HasPrefix.calls (x1000_1.extract (x1001_1 : Int).toNat x1000_1.size) (⟨#[47, 47]⟩ : ByteArray) true _ A15.out).mono ?_); rintro e w' ⟨rfl, ⟨nd, rfl⟩⟩; (try first | exact ⟨rfl, _, World.drewN_drewN _ _ _⟩ | exact ⟨rfl, _, Eq.trans (World.drewN_drewN _ _ _) (congrArg (World.drewN _) (Nat.add_assoc _ _ _))⟩)) | (go_at_call 31; (with_reducible refine (strings_IndexByte.calls (x1000_1.extract (x1001_1 : Int).toNat x1000_1.size) 10 t109 _ A19.out).mono ?_); rintro e w' ⟨rfl, ⟨nd, rfl⟩⟩; (try first | exact ⟨rfl, _, World.drewN_drewN _ _ _⟩ | exact ⟨rfl, _, Eq.trans (World.drewN_drewN _ _ _) (congrArg (World.drewN _) (Nat.add_assoc _ _ _))⟩)))); try go_wp2_with (first | ((with_reducible refine gate_callee (f := 24) rfl ?_); refine goesL_ (some 50) rfl rfl Tryd.func24 (by kernel_rfl) rfl #[.string (x1000_1.extract (x1001_1 : Int).toNat x1000_1.size), .string (⟨#[47, 47]⟩ : ByteArray)] rfl (by (try simp only [List.map_toArray, List.map_cons, List.map_nil]); first | done | rfl | (simp only [List.length_drop, List.length_take]; rfl)) ?_; (with_reducible refine (strings_HasPrefix.calls (x1000_1.extract (x1001_1 : Int).toNat x1000_1.size) (⟨#[47, 47]⟩ : ByteArray) true _ A15.out).mono ?_); rintro e w' ⟨rfl, ⟨nd, rfl⟩⟩; refine ⟨_, rfl, ?_⟩) | ((with_reducible refine gate_callee (f := 31) rfl ?_); refine goesL_ (some 60) rfl rfl Tryd.func31 (by kernel_rfl) rfl #[.string (x1000_1.extract (x1001_1 : Int).toNat x1000_1.size), .int .u8 10] rfl (by (try simp only [List.map_toArray, List.map_cons, List.map_nil]); first | done | rfl | (simp only [List.length_drop, List.length_take]; rfl)) ?_; (with_reducible refine (strings_IndexByte.calls (x1000_1.extract (x1001_1 : Int).toNat x1000_1.size) 10 t109 _ A19.out).mono ?_); rintro e w' ⟨rfl, ⟨nd, rfl⟩⟩; refine ⟨_, rfl, ?_⟩) | ((with_reducible refine gate_callee (f := 25) rfl ?_); refine goesL_ (some 75) rfl rfl Tryd.func25 (by kernel_rfl) rfl #[.pointer (some ⟨g, 0, none⟩), .int .i64 (wrap64 ((x1000_1.size : Int) - x1001_1))] rfl (by (try simp only [List.map_toArray, List.map_cons, List.map_nil]); first | done | rfl | (simp only [List.length_drop, List.length_take]; rfl)) ?_; (with_reducible refine (lex_lexer_skip.calls kj4 g x1000_1 x1001_1 x1002_1 x1003_1 (wrap64 ((x1000_1.size : Int) - x1001_1)) t110 t111 t112 t113 w0 _ ?side1 ?side2 A21.out).mono ?_); (case side1 => repeat (first | (with_reducible first | exact HI0.out | apply IsS51.alloc | apply IsS51.drewN | apply IsS51.drew | apply IsS51.set_0 | apply IsS51.set_1 | apply IsS51.set_2 | apply IsS51.set_3) | exact HI0.out)); (case side2 => repeat (first | (with_reducible first | exact HB.out | apply below_alloc | apply pw_below_drewN | apply below_drew1 | refine below_set ?_ (IsS51.ge HI0.out)) | exact HB.out)); rintro e w23 ⟨rfl, hi, hb, hk⟩; refine ⟨_, rfl, ?_⟩; have n0_ := Aside0.mk (KeepBut.trans (by repeat (first | (with_reducible first | exact HK.out | apply KeepBut.set_ | apply keep_drewN | apply keep_drew | apply keep_alloc) | exact HK.out)) hk (.inl rfl)); have n1_ := Aside0.mk (hb); have n2_ := Aside0.mk (hi); clear HK; clear HB; clear HI0; have HK := n0_; have HB := n1_; have HI0 := n2_; clear n0_ n1_ n2_; (try clear hb); (try clear hb2); (try clear hk); (try clear hi))))
                        go_roundg kj4
                        case measure => have := HK1.out; have := HJ4.out; omega
                        case rel => exact ⟨(t110), (t111), (t112), (t113), H', ⟨by have := HK1.out; have := HJ4.out; omega⟩, ⟨by repeat (first | (with_reducible first | exact HI0.out | apply IsS51.alloc | apply IsS51.drewN | apply IsS51.drew | apply IsS51.set_0 | apply IsS51.set_1 | apply IsS51.set_2 | apply IsS51.set_3) | exact HI0.out)⟩, ⟨by repeat (first | (with_reducible first | exact HK.out | apply KeepBut.set_ | apply keep_drewN | apply keep_drew | apply keep_alloc) | exact HK.out)⟩, ⟨by repeat (first | (with_reducible first | exact HB.out | apply below_alloc | apply pw_below_drewN | apply below_drew1 | refine below_set ?_ (IsS51.ge HI0.out)) | exact HB.out)⟩⟩
                      · rw [if_neg c20] at H
                        have c20b0 : decide (t109 < 0) = false := decide_eq_false c20
                        clear c20
                        replace H := Option.bind_eq_some_iff.mp H
                        obtain ⟨⟨t114, t115, t116, t117⟩, A240, H⟩ := H
                        replace H : (lex_lexer_blank.l0 kj4 t114 t115 t116 t117) = some (r1, r2, r3, r4) := H
                        have A24 := Aside0.mk A240
                        clear A240
                        have H' := Aside0.mk H
                        clear H
                        obtain ⟨HGz25, hgz25⟩ := HI0.out
                        have hcz25_0 := cellS51_0 HGz25
                        have hcz25_1 := cellS51_1 HGz25
                        have hcz25_2 := cellS51_2 HGz25
                        have hcz25_3 := cellS51_3 HGz25
                        have hfz25_0 := blk_frozen HGz25 0
                        have hfz25_1 := blk_frozen HGz25 1
                        have hfz25_2 := blk_frozen HGz25 2
                        have hfz25_3 := blk_frozen HGz25 3
                        clear HGz25 hgz25
                        go_wp2_with (first | ((with_reducible refine gate_callee (f := 24) rfl ?_); refine goesL_ (some 50) rfl rfl Tryd.func24 (by kernel_rfl) rfl #[.string (x1000_1.extract (x1001_1 : Int).toNat x1000_1.size), .string (⟨#[47, 47]⟩ : ByteArray)] rfl (by (try simp only [List.map_toArray, List.map_cons, List.map_nil]); first | done | rfl | (simp only [List.length_drop, List.length_take]; rfl)) ?_; (with_reducible refine (strings_HasPrefix.calls (x1000_1.extract (x1001_1 : Int).toNat x1000_1.size) (⟨#[47, 47]⟩ : ByteArray) true _ A15.out).mono ?_); rintro e w' ⟨rfl, ⟨nd, rfl⟩⟩; refine ⟨_, rfl, ?_⟩) | ((with_reducible refine gate_callee (f := 31) rfl ?_); refine goesL_ (some 60) rfl rfl Tryd.func31 (by kernel_rfl) rfl #[.string (x1000_1.extract (x1001_1 : Int).toNat x1000_1.size), .int .u8 10] rfl (by (try simp only [List.map_toArray, List.map_cons, List.map_nil]); first | done | rfl | (simp only [List.length_drop, List.length_take]; rfl)) ?_; (with_reducible refine (strings_IndexByte.calls (x1000_1.extract (x1001_1 : Int).toNat x1000_1.size) 10 t109 _ A19.out).mono ?_); rintro e w' ⟨rfl, ⟨nd, rfl⟩⟩; refine ⟨_, rfl, ?_⟩) | ((with_reducible refine gate_callee (f := 25) rfl ?_); refine goesL_ (some 75) rfl rfl Tryd.func25 (by kernel_rfl) rfl #[.pointer (some ⟨g, 0, none⟩), .int .i64 t109] rfl (by (try simp only [List.map_toArray, List.map_cons, List.map_nil]); first | done | rfl | (simp only [List.length_drop, List.length_take]; rfl)) ?_; (with_reducible refine (lex_lexer_skip.calls kj4 g x1000_1 x1001_1 x1002_1 x1003_1 t109 t114 t115 t116 t117 w0 _ ?side1 ?side2 A24.out).mono ?_); (case side1 => repeat (first | (with_reducible first | exact HI0.out | apply IsS51.alloc | apply IsS51.drewN | apply IsS51.drew | apply IsS51.set_0 | apply IsS51.set_1 | apply IsS51.set_2 | apply IsS51.set_3) | exact HI0.out)); (case side2 => repeat (first | (with_reducible first | exact HB.out | apply below_alloc | apply pw_below_drewN | apply below_drew1 | refine below_set ?_ (IsS51.ge HI0.out)) | exact HB.out)); rintro e w26 ⟨rfl, hi, hb, hk⟩; refine ⟨_, rfl, ?_⟩; have n0_ := Aside0.mk (KeepBut.trans (by repeat (first | (with_reducible first | exact HK.out | apply KeepBut.set_ | apply keep_drewN | apply keep_drew | apply keep_alloc) | exact HK.out)) hk (.inl rfl)); have n1_ := Aside0.mk (hb); have n2_ := Aside0.mk (hi); clear HK; clear HB; clear HI0; have HK := n0_; have HB := n1_; have HI0 := n2_; clear n0_ n1_ n2_; (try clear hb); (try clear hb2); (try clear hk); (try clear hi)))
                        repeat (go_quiet ((first | (go_at_call 24; (with_reducible refine (strings_HasPrefix.calls (x1000_1.extract (x1001_1 : Int).toNat x1000_1.size) (⟨#[47, 47]⟩ : ByteArray) true _ A15.out).mono ?_); rintro e w' ⟨rfl, ⟨nd, rfl⟩⟩; (try first | exact ⟨rfl, _, World.drewN_drewN _ _ _⟩ | exact ⟨rfl, _, Eq.trans (World.drewN_drewN _ _ _) (congrArg (World.drewN _) (Nat.add_assoc _ _ _))⟩)) | (go_at_call 31; (with_reducible refine (strings_IndexByte.calls (x1000_1.extract (x1001_1 : Int).toNat x1000_1.size) 10 t109 _ A19.out).mono ?_); rintro e w' ⟨rfl, ⟨nd, rfl⟩⟩; (try first | exact ⟨rfl, _, World.drewN_drewN _ _ _⟩ | exact ⟨rfl, _, Eq.trans (World.drewN_drewN _ _ _) (congrArg (World.drewN _) (Nat.add_assoc _ _ _))⟩)))); try go_wp2_with (first | ((with_reducible refine gate_callee (f := 24) rfl ?_); refine goesL_ (some 50) rfl rfl Tryd.func24 (by kernel_rfl) rfl #[.string (x1000_1.extract (x1001_1 : Int).toNat x1000_1.size), .string (⟨#[47, 47]⟩ : ByteArray)] rfl (by (try simp only [List.map_toArray, List.map_cons, List.map_nil]); first | done | rfl | (simp only [List.length_drop, List.length_take]; rfl)) ?_; (with_reducible refine (strings_HasPrefix.calls (x1000_1.extract (x1001_1 : Int).toNat x1000_1.size) (⟨#[47, 47]⟩ : ByteArray) true _ A15.out).mono ?_); rintro e w' ⟨rfl, ⟨nd, rfl⟩⟩; refine ⟨_, rfl, ?_⟩) | ((with_reducible refine gate_callee (f := 31) rfl ?_); refine goesL_ (some 60) rfl rfl Tryd.func31 (by kernel_rfl) rfl #[.string (x1000_1.extract (x1001_1 : Int).toNat x1000_1.size), .int .u8 10] rfl (by (try simp only [List.map_toArray, List.map_cons, List.map_nil]); first | done | rfl | (simp only [List.length_drop, List.length_take]; rfl)) ?_; (with_reducible refine (strings_IndexByte.calls (x1000_1.extract (x1001_1 : Int).toNat x1000_1.size) 10 t109 _ A19.out).mono ?_); rintro e w' ⟨rfl, ⟨nd, rfl⟩⟩; refine ⟨_, rfl, ?_⟩) | ((with_reducible refine gate_callee (f := 25) rfl ?_); refine goesL_ (some 75) rfl rfl Tryd.func25 (by kernel_rfl) rfl #[.pointer (some ⟨g, 0, none⟩), .int .i64 t109] rfl (by (try simp only [List.map_toArray, List.map_cons, List.map_nil]); first | done | rfl | (simp only [List.length_drop, List.length_take]; rfl)) ?_; (with_reducible refine (lex_lexer_skip.calls kj4 g x1000_1 x1001_1 x1002_1 x1003_1 t109 t114 t115 t116 t117 w0 _ ?side1 ?side2 A24.out).mono ?_); (case side1 => repeat (first | (with_reducible first | exact HI0.out | apply IsS51.alloc | apply IsS51.drewN | apply IsS51.drew | apply IsS51.set_0 | apply IsS51.set_1 | apply IsS51.set_2 | apply IsS51.set_3) | exact HI0.out)); (case side2 => repeat (first | (with_reducible first | exact HB.out | apply below_alloc | apply pw_below_drewN | apply below_drew1 | refine below_set ?_ (IsS51.ge HI0.out)) | exact HB.out)); rintro e w26 ⟨rfl, hi, hb, hk⟩; refine ⟨_, rfl, ?_⟩; have n0_ := Aside0.mk (KeepBut.trans (by repeat (first | (with_reducible first | exact HK.out | apply KeepBut.set_ | apply keep_drewN | apply keep_drew | apply keep_alloc) | exact HK.out)) hk (.inl rfl)); have n1_ := Aside0.mk (hb); have n2_ := Aside0.mk (hi); clear HK; clear HB; clear HI0; have HK := n0_; have HB := n1_; have HI0 := n2_; clear n0_ n1_ n2_; (try clear hb); (try clear hb2); (try clear hk); (try clear hi))))
                        go_roundg kj4
                        case measure => have := HK1.out; have := HJ4.out; omega
                        case rel => exact ⟨(t114), (t115), (t116), (t117), H', ⟨by have := HK1.out; have := HJ4.out; omega⟩, ⟨by repeat (first | (with_reducible first | exact HI0.out | apply IsS51.alloc | apply IsS51.drewN | apply IsS51.drew | apply IsS51.set_0 | apply IsS51.set_1 | apply IsS51.set_2 | apply IsS51.set_3) | exact HI0.out)⟩, ⟨by repeat (first | (with_reducible first | exact HK.out | apply KeepBut.set_ | apply keep_drewN | apply keep_drew | apply keep_alloc) | exact HK.out)⟩, ⟨by repeat (first | (with_reducible first | exact HB.out | apply below_alloc | apply pw_below_drewN | apply below_drew1 | refine below_set ?_ (IsS51.ge HI0.out)) | exact HB.out)⟩⟩
                    · replace c16 := Bool.eq_false_iff.mpr c16
                      subst c16
                      have H1 : (some (x1000_1, x1001_1, x1002_1, x1003_1)) = some (r1, r2, r3, r4) := by rw [if_neg (show ¬ (false = true) by decide)] at H; exact H
                      clear H
                      have H := H1
                      clear H1
                      simp only [Option.some.injEq, Prod.mk.injEq] at H
                      obtain ⟨rfl, rfl, rfl, rfl⟩ := H
                      obtain ⟨HGz27, hgz27⟩ := HI0.out
                      have hcz27_0 := cellS51_0 HGz27
                      have hcz27_1 := cellS51_1 HGz27
                      have hcz27_2 := cellS51_2 HGz27
                      have hcz27_3 := cellS51_3 HGz27
                      have hfz27_0 := blk_frozen HGz27 0
                      have hfz27_1 := blk_frozen HGz27 1
                      have hfz27_2 := blk_frozen HGz27 2
                      have hfz27_3 := blk_frozen HGz27 3
                      clear HGz27 hgz27
                      go_wp2_with (first | ((with_reducible refine gate_callee (f := 24) rfl ?_); refine goesL_ (some 50) rfl rfl Tryd.func24 (by kernel_rfl) rfl #[.string (x1000_1.extract (x1001_1 : Int).toNat x1000_1.size), .string (⟨#[47, 47]⟩ : ByteArray)] rfl (by (try simp only [List.map_toArray, List.map_cons, List.map_nil]); first | done | rfl | (simp only [List.length_drop, List.length_take]; rfl)) ?_; (with_reducible refine (strings_HasPrefix.calls (x1000_1.extract (x1001_1 : Int).toNat x1000_1.size) (⟨#[47, 47]⟩ : ByteArray) false _ A15.out).mono ?_); rintro e w' ⟨rfl, ⟨nd, rfl⟩⟩; refine ⟨_, rfl, ?_⟩))
                      repeat (go_quiet ((first | (go_at_call 24; (with_reducible refine (strings_HasPrefix.calls (x1000_1.extract (x1001_1 : Int).toNat x1000_1.size) (⟨#[47, 47]⟩ : ByteArray) false _ A15.out).mono ?_); rintro e w' ⟨rfl, ⟨nd, rfl⟩⟩; (try first | exact ⟨rfl, _, World.drewN_drewN _ _ _⟩ | exact ⟨rfl, _, Eq.trans (World.drewN_drewN _ _ _) (congrArg (World.drewN _) (Nat.add_assoc _ _ _))⟩)))); try go_wp2_with (first | ((with_reducible refine gate_callee (f := 24) rfl ?_); refine goesL_ (some 50) rfl rfl Tryd.func24 (by kernel_rfl) rfl #[.string (x1000_1.extract (x1001_1 : Int).toNat x1000_1.size), .string (⟨#[47, 47]⟩ : ByteArray)] rfl (by (try simp only [List.map_toArray, List.map_cons, List.map_nil]); first | done | rfl | (simp only [List.length_drop, List.length_take]; rfl)) ?_; (with_reducible refine (strings_HasPrefix.calls (x1000_1.extract (x1001_1 : Int).toNat x1000_1.size) (⟨#[47, 47]⟩ : ByteArray) false _ A15.out).mono ?_); rintro e w' ⟨rfl, ⟨nd, rfl⟩⟩; refine ⟨_, rfl, ?_⟩)))
                      first | go_end0 | ((try simp only [Exit.inBlock, Exit.then]); refine bodyPost_ret (results_none rfl _ _ _) rfl ?_)
                      exact ⟨by first | rfl | (simp [errW_none, errW_some] <;> rfl) | (simp [*, errW_none, errW_some] <;> rfl), by repeat (first | (with_reducible first | exact HI0.out | apply IsS51.alloc | apply IsS51.drewN | apply IsS51.drew | apply IsS51.set_0 | apply IsS51.set_1 | apply IsS51.set_2 | apply IsS51.set_3) | exact HI0.out), by repeat (first | (with_reducible first | exact HB.out | apply below_alloc | apply pw_below_drewN | apply below_drew1 | refine below_set ?_ (IsS51.ge HI0.out)) | exact HB.out), by repeat (first | (with_reducible first | exact HK.out | apply KeepBut.set_ | apply keep_drewN | apply keep_drew | apply keep_alloc) | exact HK.out)⟩
                  · rw [if_neg c14] at H
                    exact absurd H (by simp)
                · rw [if_neg c13] at H
                  exact absurd H (by simp)
        · rw [if_neg c3] at H
          exact absurd H (by simp)
      · rw [if_neg c2] at H
        have c2b0 : decide (x1001_1 < (x1000_1.size : Int)) = false := decide_eq_false c2
        clear c2
        simp only [Option.some.injEq, Prod.mk.injEq] at H
        obtain ⟨rfl, rfl, rfl, rfl⟩ := H
        obtain ⟨HGz28, hgz28⟩ := HI0.out
        have hcz28_0 := cellS51_0 HGz28
        have hcz28_1 := cellS51_1 HGz28
        have hcz28_2 := cellS51_2 HGz28
        have hcz28_3 := cellS51_3 HGz28
        have hfz28_0 := blk_frozen HGz28 0
        have hfz28_1 := blk_frozen HGz28 1
        have hfz28_2 := blk_frozen HGz28 2
        have hfz28_3 := blk_frozen HGz28 3
        clear HGz28 hgz28
        go_wp2
        repeat (go_quiet (fail); try go_wp2)
        first | go_end0 | ((try simp only [Exit.inBlock, Exit.then]); refine bodyPost_ret (results_none rfl _ _ _) rfl ?_)
        exact ⟨by first | rfl | (simp [errW_none, errW_some] <;> rfl) | (simp [*, errW_none, errW_some] <;> rfl), by repeat (first | (with_reducible first | exact HI0.out | apply IsS51.alloc | apply IsS51.drewN | apply IsS51.drew | apply IsS51.set_0 | apply IsS51.set_1 | apply IsS51.set_2 | apply IsS51.set_3) | exact HI0.out), by repeat (first | (with_reducible first | exact HB.out | apply below_alloc | apply pw_below_drewN | apply below_drew1 | refine below_set ?_ (IsS51.ge HI0.out)) | exact HB.out), by repeat (first | (with_reducible first | exact HK.out | apply KeepBut.set_ | apply keep_drewN | apply keep_drew | apply keep_alloc) | exact HK.out)⟩


end Go.Proofs.YtfljigegjhnidaaDoor.B
