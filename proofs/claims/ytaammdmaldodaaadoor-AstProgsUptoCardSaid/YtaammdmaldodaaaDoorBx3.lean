/- Out of the kit's print of this seat's functions, put together by a program of mine. -/
import Derived.Test.YtaammdmaldodaaaDoorBx1
import Derived.Test.YtaammdmaldodaaaDoorBx2
namespace Go.Proofs.YtaammdmaldodaaaDoor.B
open Go.RowKit Go.Proofs.YtaammdmaldodaaaDoorW.PrintWords Go.Proofs.YtaammdmaldodaaaDoorW.PrintLast Go.Proofs.YtaammdmaldodaaaDoorW.PrintMore
attribute [local go_sem] max2_int min2_int max_two min_two max_three min_three max_four min_four   -- for this text's walks alone
set_option linter.unusedVariables false
set_option linter.unusedSimpArgs false

/-! ### palingslaw03_FewStmts: function 14 -/
mutual
def palingslaw03_FewStmts.j0 : Nat → List (S38) → Int → Bool → Option (Bool)
  | 0, _, _, _ => none
  | k + 1, x0, x1, x15 => if x15 = true then (some false) else (palingslaw03_FewStmts.l0 k x1 x0 (x0.length : Int) 0)
def palingslaw03_FewStmts.l0 : Nat → Int → List (S38) → Int → Int → Option (Bool)
  | 0, _, _, _, _ => none
  | k + 1, x1, x16, x17, x18 => if x18 < x17 then (if 0 ≤ x18 then (if x18 < (x16.length : Int) then (if (((rd_T38 x16 x18).f2).size : Int) > 40 then (palingslaw03_FewStmts.j2 k x1 x16 x17 x18 true ((rd_T38 x16 x18).f0) ((rd_T38 x16 x18).f1.f0) ((rd_T38 x16 x18).f1.f1) ((rd_T38 x16 x18).f2) ((rd_T38 x16 x18).f3) ((rd_T38 x16 x18).f4) ((rd_T38 x16 x18).f5)) else (if (((rd_T38 x16 x18).f3).length : Int) > 3 then (palingslaw03_FewStmts.j2 k x1 x16 x17 x18 true ((rd_T38 x16 x18).f0) ((rd_T38 x16 x18).f1.f0) ((rd_T38 x16 x18).f1.f1) ((rd_T38 x16 x18).f2) ((rd_T38 x16 x18).f3) ((rd_T38 x16 x18).f4) ((rd_T38 x16 x18).f5)) else ((palingslaw03_FewStmts.f k ((rd_T38 x16 x18).f4) (wrap64 (x1 + 1))).bind fun t131 => (if t131 = true then ((palingslaw03_FewStmts.f k ((rd_T38 x16 x18).f5) (wrap64 (x1 + 1))).bind fun t132 => (palingslaw03_FewStmts.j2 k x1 x16 x17 x18 (!t132) ((rd_T38 x16 x18).f0) ((rd_T38 x16 x18).f1.f0) ((rd_T38 x16 x18).f1.f1) ((rd_T38 x16 x18).f2) ((rd_T38 x16 x18).f3) ((rd_T38 x16 x18).f4) ((rd_T38 x16 x18).f5))) else (palingslaw03_FewStmts.j2 k x1 x16 x17 x18 true ((rd_T38 x16 x18).f0) ((rd_T38 x16 x18).f1.f0) ((rd_T38 x16 x18).f1.f1) ((rd_T38 x16 x18).f2) ((rd_T38 x16 x18).f3) ((rd_T38 x16 x18).f4) ((rd_T38 x16 x18).f5)))))) else (none)) else (none)) else (some true)
def palingslaw03_FewStmts.j2 : Nat → Int → List (S38) → Int → Int → Bool → Int → Int → Int → ByteArray → List (S31) → List (S38) → List (S38) → Option (Bool)
  | 0, _, _, _, _, _, _, _, _, _, _, _, _ => none
  | k + 1, x1, x16, x17, x18, x47, x131000, x131001, x131002, x131003, x131004, x131005, x131006 => if x47 = true then (some false) else (palingslaw03_FewStmts.l1 k x1 x16 x17 x18 x131004 (x131004.length : Int) 0)
def palingslaw03_FewStmts.l1 : Nat → Int → List (S38) → Int → Int → List (S31) → Int → Int → Option (Bool)
  | 0, _, _, _, _, _, _, _ => none
  | k + 1, x1, x16, x17, x18, x49, x50, x51 => if x51 < x50 then (if 0 ≤ x51 then (if x51 < (x49.length : Int) then ((palingslaw03_Few.f k ((rd_T31 x49 x51).f0) ((rd_T31 x49 x51).f1.f0) ((rd_T31 x49 x51).f1.f1) ((rd_T31 x49 x51).f2) ((rd_T31 x49 x51).f3) ((rd_T31 x49 x51).f4) ((rd_T31 x49 x51).f5) 0).bind fun t135 => (if t135 = true then (palingslaw03_FewStmts.l1 k x1 x16 x17 x18 x49 x50 (wrap64 (x51 + 1))) else (some false))) else (none)) else (none)) else (palingslaw03_FewStmts.l0 k x1 x16 x17 (wrap64 (x18 + 1)))
def palingslaw03_FewStmts.f : Nat → List (S38) → Int → Option (Bool)
  | 0, _, _ => none
  | k + 1, l0, a1 => if a1 > 6 then (palingslaw03_FewStmts.j0 k l0 a1 true) else (palingslaw03_FewStmts.j0 k l0 a1 (decide ((l0.length : Int) > 8)))
end
theorem palingslaw03_FewStmts.mono_l : ∀ k, (∀ y0 y1, LeO (palingslaw03_FewStmts.f k y0 y1) (palingslaw03_FewStmts.f (k + 1) y0 y1)) ∧ (∀ y0 y1 y2, LeO (palingslaw03_FewStmts.j0 k y0 y1 y2) (palingslaw03_FewStmts.j0 (k + 1) y0 y1 y2)) ∧ (∀ y0 y1 y2 y3, LeO (palingslaw03_FewStmts.l0 k y0 y1 y2 y3) (palingslaw03_FewStmts.l0 (k + 1) y0 y1 y2 y3)) ∧ (∀ y0 y1 y2 y3 y4 y5 y6 y7 y8 y9 y10 y11, LeO (palingslaw03_FewStmts.j2 k y0 y1 y2 y3 y4 y5 y6 y7 y8 y9 y10 y11) (palingslaw03_FewStmts.j2 (k + 1) y0 y1 y2 y3 y4 y5 y6 y7 y8 y9 y10 y11)) ∧ (∀ y0 y1 y2 y3 y4 y5 y6, LeO (palingslaw03_FewStmts.l1 k y0 y1 y2 y3 y4 y5 y6) (palingslaw03_FewStmts.l1 (k + 1) y0 y1 y2 y3 y4 y5 y6))
  | 0 => ⟨fun _ _ r h => by simp [palingslaw03_FewStmts.f] at h, fun _ _ _ r h => by simp [palingslaw03_FewStmts.j0] at h, fun _ _ _ _ r h => by simp [palingslaw03_FewStmts.l0] at h, fun _ _ _ _ _ _ _ _ _ _ _ _ r h => by simp [palingslaw03_FewStmts.j2] at h, fun _ _ _ _ _ _ _ r h => by simp [palingslaw03_FewStmts.l1] at h⟩
  | k + 1 => by
    obtain ⟨ih0, ih1, ih2, ih3, ih4⟩ := palingslaw03_FewStmts.mono_l k
    refine ⟨?_, ?_, ?_, ?_, ?_⟩
    · intro y0 y1
      unfold palingslaw03_FewStmts.f
      repeat' first
      | (with_reducible exact ih0 _ _)
      | (with_reducible exact ih1 _ _ _)
      | (with_reducible exact ih2 _ _ _ _)
      | (with_reducible exact ih3 _ _ _ _ _ _ _ _ _ _ _ _)
      | (with_reducible exact ih4 _ _ _ _ _ _ _)
      | (with_reducible exact palingslaw03_Few.mono _ _ _ _ _ _ _ _ _)
      | (with_reducible exact LeO.refl _)
      | (with_reducible exact LeO.none _)
      | (with_reducible refine LeO.ite ?_ ?_)
      | (with_reducible refine LeO.bind ?_ (fun _ => ?_))
      | exact ih0 _ _
      | exact ih1 _ _ _
      | exact ih2 _ _ _ _
      | exact ih3 _ _ _ _ _ _ _ _ _ _ _ _
      | exact ih4 _ _ _ _ _ _ _
      | exact palingslaw03_Few.mono _ _ _ _ _ _ _ _ _
      | exact LeO.none _
      | refine LeO.ite ?_ ?_
      | refine LeO.bind ?_ (fun _ => ?_)
    · intro y0 y1 y2
      unfold palingslaw03_FewStmts.j0
      repeat' first
      | (with_reducible exact ih0 _ _)
      | (with_reducible exact ih1 _ _ _)
      | (with_reducible exact ih2 _ _ _ _)
      | (with_reducible exact ih3 _ _ _ _ _ _ _ _ _ _ _ _)
      | (with_reducible exact ih4 _ _ _ _ _ _ _)
      | (with_reducible exact palingslaw03_Few.mono _ _ _ _ _ _ _ _ _)
      | (with_reducible exact LeO.refl _)
      | (with_reducible exact LeO.none _)
      | (with_reducible refine LeO.ite ?_ ?_)
      | (with_reducible refine LeO.bind ?_ (fun _ => ?_))
      | exact ih0 _ _
      | exact ih1 _ _ _
      | exact ih2 _ _ _ _
      | exact ih3 _ _ _ _ _ _ _ _ _ _ _ _
      | exact ih4 _ _ _ _ _ _ _
      | exact palingslaw03_Few.mono _ _ _ _ _ _ _ _ _
      | exact LeO.none _
      | refine LeO.ite ?_ ?_
      | refine LeO.bind ?_ (fun _ => ?_)
    · intro y0 y1 y2 y3
      unfold palingslaw03_FewStmts.l0
      repeat' first
      | (with_reducible exact ih0 _ _)
      | (with_reducible exact ih1 _ _ _)
      | (with_reducible exact ih2 _ _ _ _)
      | (with_reducible exact ih3 _ _ _ _ _ _ _ _ _ _ _ _)
      | (with_reducible exact ih4 _ _ _ _ _ _ _)
      | (with_reducible exact palingslaw03_Few.mono _ _ _ _ _ _ _ _ _)
      | (with_reducible exact LeO.refl _)
      | (with_reducible exact LeO.none _)
      | (with_reducible refine LeO.ite ?_ ?_)
      | (with_reducible refine LeO.bind ?_ (fun _ => ?_))
      | exact ih0 _ _
      | exact ih1 _ _ _
      | exact ih2 _ _ _ _
      | exact ih3 _ _ _ _ _ _ _ _ _ _ _ _
      | exact ih4 _ _ _ _ _ _ _
      | exact palingslaw03_Few.mono _ _ _ _ _ _ _ _ _
      | exact LeO.none _
      | refine LeO.ite ?_ ?_
      | refine LeO.bind ?_ (fun _ => ?_)
    · intro y0 y1 y2 y3 y4 y5 y6 y7 y8 y9 y10 y11
      unfold palingslaw03_FewStmts.j2
      repeat' first
      | (with_reducible exact ih0 _ _)
      | (with_reducible exact ih1 _ _ _)
      | (with_reducible exact ih2 _ _ _ _)
      | (with_reducible exact ih3 _ _ _ _ _ _ _ _ _ _ _ _)
      | (with_reducible exact ih4 _ _ _ _ _ _ _)
      | (with_reducible exact palingslaw03_Few.mono _ _ _ _ _ _ _ _ _)
      | (with_reducible exact LeO.refl _)
      | (with_reducible exact LeO.none _)
      | (with_reducible refine LeO.ite ?_ ?_)
      | (with_reducible refine LeO.bind ?_ (fun _ => ?_))
      | exact ih0 _ _
      | exact ih1 _ _ _
      | exact ih2 _ _ _ _
      | exact ih3 _ _ _ _ _ _ _ _ _ _ _ _
      | exact ih4 _ _ _ _ _ _ _
      | exact palingslaw03_Few.mono _ _ _ _ _ _ _ _ _
      | exact LeO.none _
      | refine LeO.ite ?_ ?_
      | refine LeO.bind ?_ (fun _ => ?_)
    · intro y0 y1 y2 y3 y4 y5 y6
      unfold palingslaw03_FewStmts.l1
      repeat' first
      | (with_reducible exact ih0 _ _)
      | (with_reducible exact ih1 _ _ _)
      | (with_reducible exact ih2 _ _ _ _)
      | (with_reducible exact ih3 _ _ _ _ _ _ _ _ _ _ _ _)
      | (with_reducible exact ih4 _ _ _ _ _ _ _)
      | (with_reducible exact palingslaw03_Few.mono _ _ _ _ _ _ _ _ _)
      | (with_reducible exact LeO.refl _)
      | (with_reducible exact LeO.none _)
      | (with_reducible refine LeO.ite ?_ ?_)
      | (with_reducible refine LeO.bind ?_ (fun _ => ?_))
      | exact ih0 _ _
      | exact ih1 _ _ _
      | exact ih2 _ _ _ _
      | exact ih3 _ _ _ _ _ _ _ _ _ _ _ _
      | exact ih4 _ _ _ _ _ _ _
      | exact palingslaw03_Few.mono _ _ _ _ _ _ _ _ _
      | exact LeO.none _
      | refine LeO.ite ?_ ?_
      | refine LeO.bind ?_ (fun _ => ?_)
theorem palingslaw03_FewStmts.mono : ∀ a0 a1 k, LeO (palingslaw03_FewStmts.f k a0 a1) (palingslaw03_FewStmts.f (k + 1) a0 a1) := by
  intro a0 a1 k
  obtain ⟨ih0, ih1, ih2, ih3, ih4⟩ := palingslaw03_FewStmts.mono_l k
  exact ih0 a0 a1
set_option maxHeartbeats 8000000 in
set_option maxRecDepth 100000 in
theorem palingslaw03_FewStmts.calls (k : Nat) : ∀ (A0 : Option Addr) (c0 : Nat) (l0 : List (S38)) (a1 : Int) (r : Bool) (w : World) (hr0 : Kd.C k38 w A0 l0.length l0) (hc0 : l0.length ≤ c0) (h : palingslaw03_FewStmts.f k l0 a1 = some r),
    Calls Tryd.prog 14 #[.slice A0 l0.length c0, .int .i64 a1] w fun e w' => e = .returned (.bool r) ∧ Below w.heap.size w w' := by
  induction k using Nat.strongRecOn with
  | _ k ih =>
  intro A0 c0 l0 a1 r w hr0 hc0 h
  cases k with
  | zero => exact absurd h (by simp [palingslaw03_FewStmts.f])
  | succ k =>
  simp only [palingslaw03_FewStmts.f] at h
  have hu38 := Tryd.underlying38
  have hu31 := Tryd.underlying31
  have HR0 := Aside0.mk hr0
  have HC0 := Aside0.mk hc0
  clear hr0 hc0
  have HB := Aside0.mk (Below.refl w.heap.size w)
  have H : (if a1 > 6 then (palingslaw03_FewStmts.j0 k l0 a1 true) else (palingslaw03_FewStmts.j0 k l0 a1 (decide ((l0.length : Int) > 8)))) = some r := h
  clear h
  have HC3 := Aside0.mk H
  clear H
  go_enter Tryd.func14, Tryd.ntmps14
  go_upto_region 1 with (fail)
  go_cut [15] (fun v15 wc => ∃ (kq : Nat) (x15_2 : Bool), v15 = .bool x15_2 ∧ Aside0 (palingslaw03_FewStmts.j0 kq l0 a1 x15_2 = some r) ∧ Aside0 (kq ≤ k) ∧ Aside0 (Below w.heap.size w wc))
  case first =>
    have H := HC3.out
    clear HC3
    by_cases c4 : a1 > 6
    · rw [if_pos c4] at H
      have c4b0 : decide (6 < a1) = true := decide_eq_true c4
      clear c4
      (first | rw [c4b0] | (simp only [i64_w, i32_w]; rw [c4b0]) | skip)
      have H' := Aside0.mk H
      clear H
      go_wp2
      go_meet
      case rel => exact ⟨_, (true), (by first | rfl | (simp; done) | (simp [*]; done)), H', ⟨by first | omega | exact Nat.le_refl _⟩, ⟨by repeat (first | (with_reducible first | exact HB.out | apply below_alloc | apply pw_below_drewN | apply below_drew1) | exact HB.out)⟩⟩
    · rw [if_neg c4] at H
      have c4b0 : decide (6 < a1) = false := decide_eq_false c4
      clear c4
      (first | rw [c4b0] | (simp only [i64_w, i32_w]; rw [c4b0]) | skip)
      have H' := Aside0.mk H
      clear H
      go_wp2
      go_meet
      case rel => exact ⟨_, (decide ((l0.length : Int) > 8)), (by first | rfl | (simp; done) | (simp [*]; done)), H', ⟨by first | omega | exact Nat.le_refl _⟩, ⟨by repeat (first | (with_reducible first | exact HB.out | apply below_alloc | apply pw_below_drewN | apply below_drew1) | exact HB.out)⟩⟩
  case rest =>
    clear HC3
    try clear c1
    try clear p2
    try clear c4
    try clear c4b0
    obtain ⟨kq, x15_2, rfl, HA, HJ2, HB⟩ := hcut
    cases kq with
    | zero => exact absurd HA.out (by simp [palingslaw03_FewStmts.j0])
    | succ kj2 =>
      have H := HA.out
      clear HA
      simp only [palingslaw03_FewStmts.j0] at H
      by_cases c5 : x15_2 = true
      · subst c5
        have H1 : (some false) = some r := by rw [if_pos rfl] at H; exact H
        clear H
        have H := H1
        clear H1
        obtain rfl := Option.some.inj H
        go_wp2
        go_ret
        exact ⟨by first | rfl | (simp [errW_none, errW_some] <;> rfl) | (simp [*, errW_none, errW_some] <;> rfl), by repeat (first | (with_reducible first | exact HB.out | apply below_alloc | apply pw_below_drewN | apply below_drew1) | exact HB.out)⟩
      · replace c5 := Bool.eq_false_iff.mpr c5
        subst c5
        have H1 : (palingslaw03_FewStmts.l0 kj2 a1 l0 (l0.length : Int) 0) = some r := by rw [if_neg (show ¬ (false = true) by decide)] at H; exact H
        clear H
        have H := H1
        clear H1
        have H' := Aside0.mk H
        clear H
        go_wp2
        go_loopg [18] kj2 (fun kq v18 w' => ∃ (x18_2 : Int), v18 = .int .i64 x18_2 ∧ Aside0 (palingslaw03_FewStmts.l0 kq a1 l0 (l0.length : Int) x18_2 = some r) ∧ Aside0 (kq ≤ kj2) ∧ Aside0 (Below w.heap.size w w'))
        case atStart => exact ⟨(0), (by first | rfl | (simp; done) | (simp [*]; done)), H', ⟨Nat.le_refl _⟩, ⟨by repeat (first | (with_reducible first | exact HB.out | apply below_alloc | apply pw_below_drewN | apply below_drew1) | exact HB.out)⟩⟩
        case round =>
          clear H'
          try clear c1
          try clear p2
          try clear c4
          try clear c4b0
          try clear c5
          try clear p2
          obtain ⟨x18_2, rfl, HA, HK2, HB⟩ := hrel
          cases gk with
          | zero => exact absurd HA.out (by simp [palingslaw03_FewStmts.l0])
          | succ k2 =>
            have H := HA.out
            clear HA
            simp only [palingslaw03_FewStmts.l0] at H
            by_cases c6 : x18_2 < (l0.length : Int)
            · rw [if_pos c6] at H
              have c6b0 : decide (x18_2 < (l0.length : Int)) = true := decide_eq_true c6
              clear c6
              by_cases c7 : 0 ≤ x18_2
              · rw [if_pos c7] at H
                have c7b0 : decide (0 ≤ x18_2) = true := decide_eq_true c7
                clear c7
                by_cases c8 : x18_2 < (l0.length : Int)
                · rw [if_pos c8] at H
                  have c8b0 : decide (x18_2 < (l0.length : Int)) = true := decide_eq_true c8
                  clear c8
                  have HC9 := Aside0.mk H
                  clear H
                  have p129 : 0 ≤ (x18_2 : Int) := of_decide_eq_true (by first | (with_reducible assumption) | assumption)
                  have q129 : x18_2 < (l0.length : Int) := of_decide_eq_true (by first | (with_reducible assumption) | assumption)
                  obtain ⟨ad129, A129_4, c129_4, A129_5, c129_5, A129_6, c129_6, e129, hx129_0, hx129_1, hx129_2, hx129_3, hx129_4, hx129_5, hx129_6, hl129_4, hi129_4, hl129_5, hi129_5, hl129_6, hi129_6⟩ := at_T38 HR0.out x18_2 p129 q129
                  cases e129
                  replace hx129_0 := (HB.out.cell (World.block_lt_of_cell? w _ hx129_0)).trans hx129_0
                  replace hx129_1 := (HB.out.cell (World.block_lt_of_cell? w _ hx129_1)).trans hx129_1
                  replace hx129_2 := (HB.out.cell (World.block_lt_of_cell? w _ hx129_2)).trans hx129_2
                  replace hx129_3 := (HB.out.cell (World.block_lt_of_cell? w _ hx129_3)).trans hx129_3
                  replace hx129_4 := (HB.out.cell (World.block_lt_of_cell? w _ hx129_4)).trans hx129_4
                  replace hx129_5 := (HB.out.cell (World.block_lt_of_cell? w _ hx129_5)).trans hx129_5
                  replace hx129_6 := (HB.out.cell (World.block_lt_of_cell? w _ hx129_6)).trans hx129_6
                  have HR129_4 := Aside0.mk hi129_4
                  have HC129_4 := Aside0.mk hl129_4
                  clear hi129_4 hl129_4
                  have HR129_5 := Aside0.mk hi129_5
                  have HC129_5 := Aside0.mk hl129_5
                  clear hi129_5 hl129_5
                  have HR129_6 := Aside0.mk hi129_6
                  have HC129_6 := Aside0.mk hl129_6
                  clear hi129_6 hl129_6
                  replace p129 := eq_true p129
                  replace q129 := eq_true q129
                  go_upto_region 6 with (first | ((with_reducible refine gate_dst (N := 6) rfl ?_); (try (refine gate_guard (by rfl) ?_; dsimp only)); refine box_event ?hg (N := 6) ?hd (cs := #[.int .i64 0, .int .i64 0, .int .i64 0, .string (⟨#[]⟩ : ByteArray), .slice none 0 0, .slice none 0 0, .slice none 0 0]) (t := 38) ?hr ?_; (case hd => rfl); (case hg => rfl); (case hr => first | (go_simp; done) | (go_simp; rfl)); intro gb130 hg w10 hbox hb; have n0_ := Aside0.mk (below_step (by repeat (first | (with_reducible first | exact HB.out | apply below_alloc | apply pw_below_drewN | apply below_drew1) | exact HB.out)) hb); have n1_ := Aside0.mk (hbox); have n2_ := Aside0.mk ((by rw [hg]; exact (below_size (by repeat (first | (with_reducible first | exact HB.out | apply below_alloc | apply pw_below_drewN | apply below_drew1) | exact HB.out))) : w.heap.size ≤ gb130)); have n3_ := Aside0.mk ((by rw [hg]; exact (below_size (by repeat (first | (with_reducible first | exact HB.out | apply below_alloc | apply pw_below_drewN | apply below_drew1) | exact HB.out))) : w.heap.size ≤ gb130)); clear HB; have HB := n0_; have BK130 := n1_; have GW130 := n2_; have GE130 := n3_; clear n0_ n1_ n2_ n3_; clear hb hbox hg; have hcz11_0 : w10.cell? ⟨gb130, 0, none⟩ = some (.int .i64 0) := (blk_cell BK130.out 0).trans rfl; have hcz11_1 : w10.cell? ⟨gb130, 1, none⟩ = some (.int .i64 0) := (blk_cell BK130.out 1).trans rfl; have hcz11_2 : w10.cell? ⟨gb130, 2, none⟩ = some (.int .i64 0) := (blk_cell BK130.out 2).trans rfl; have hcz11_3 : w10.cell? ⟨gb130, 3, none⟩ = some (.string (⟨#[]⟩ : ByteArray)) := (blk_cell BK130.out 3).trans rfl; have hcz11_4 : w10.cell? ⟨gb130, 4, none⟩ = some (.slice none 0 0) := (blk_cell BK130.out 4).trans rfl; have hcz11_5 : w10.cell? ⟨gb130, 5, none⟩ = some (.slice none 0 0) := (blk_cell BK130.out 5).trans rfl; have hcz11_6 : w10.cell? ⟨gb130, 6, none⟩ = some (.slice none 0 0) := (blk_cell BK130.out 6).trans rfl; have hfz11_0 := blk_frozen BK130.out 0; have hfz11_1 := blk_frozen BK130.out 1; have hfz11_2 := blk_frozen BK130.out 2; have hfz11_3 := blk_frozen BK130.out 3; have hfz11_4 := blk_frozen BK130.out 4; have hfz11_5 := blk_frozen BK130.out 5; have hfz11_6 := blk_frozen BK130.out 6))
                  (try simp only [Act.put, List.setIfInBounds_toArray, List.set_cons_zero, List.set_cons_succ])
                  go_cut [47] (fun v47 wc => ∃ (kq : Nat) (x47_8 : Bool), v47 = .bool x47_8 ∧ Aside0 (palingslaw03_FewStmts.j2 kq a1 l0 (l0.length : Int) x18_2 x47_8 ((rd_T38 l0 x18_2).f0) ((rd_T38 l0 x18_2).f1.f0) ((rd_T38 l0 x18_2).f1.f1) ((rd_T38 l0 x18_2).f2) ((rd_T38 l0 x18_2).f3) ((rd_T38 l0 x18_2).f4) ((rd_T38 l0 x18_2).f5) = some r) ∧ Aside0 (kq ≤ k2) ∧ Aside0 (wc.heap[gb130]? = some (.cells #[.int .i64 ((rd_T38 l0 x18_2).f0), .int .i64 ((rd_T38 l0 x18_2).f1.f0), .int .i64 ((rd_T38 l0 x18_2).f1.f1), .string ((rd_T38 l0 x18_2).f2), (.slice A129_4 ((rd_T38 l0 x18_2).f3).length c129_4), (.slice A129_5 ((rd_T38 l0 x18_2).f4).length c129_5), (.slice A129_6 ((rd_T38 l0 x18_2).f5).length c129_6)] 38 (0, 0))) ∧ Aside0 (Below w.heap.size w wc))
                  case first =>
                    have H := HC9.out
                    clear HC9
                    by_cases c12 : (((rd_T38 l0 x18_2).f2).size : Int) > 40
                    · rw [if_pos c12] at H
                      have c12b0 : decide (40 < (((rd_T38 l0 x18_2).f2).size : Int)) = true := decide_eq_true c12
                      have c12b1 : decide (40 < ((rd_T38 l0 x18_2).f2).size) = true := decide_eq_true (by omega)
                      clear c12
                      (first | rw [c12b0] | (simp only [i64_w, i32_w]; rw [c12b0]) | skip)
                      have H' := Aside0.mk H
                      clear H
                      have hcz13_0 : w10.cell? ⟨gb130, 0, none⟩ = some (.int .i64 0) := (blk_cell BK130.out 0).trans rfl
                      have hcz13_1 : w10.cell? ⟨gb130, 1, none⟩ = some (.int .i64 0) := (blk_cell BK130.out 1).trans rfl
                      have hcz13_2 : w10.cell? ⟨gb130, 2, none⟩ = some (.int .i64 0) := (blk_cell BK130.out 2).trans rfl
                      have hcz13_3 : w10.cell? ⟨gb130, 3, none⟩ = some (.string (⟨#[]⟩ : ByteArray)) := (blk_cell BK130.out 3).trans rfl
                      have hcz13_4 : w10.cell? ⟨gb130, 4, none⟩ = some (.slice none 0 0) := (blk_cell BK130.out 4).trans rfl
                      have hcz13_5 : w10.cell? ⟨gb130, 5, none⟩ = some (.slice none 0 0) := (blk_cell BK130.out 5).trans rfl
                      have hcz13_6 : w10.cell? ⟨gb130, 6, none⟩ = some (.slice none 0 0) := (blk_cell BK130.out 6).trans rfl
                      have hfz13_0 := blk_frozen BK130.out 0
                      have hfz13_1 := blk_frozen BK130.out 1
                      have hfz13_2 := blk_frozen BK130.out 2
                      have hfz13_3 := blk_frozen BK130.out 3
                      have hfz13_4 := blk_frozen BK130.out 4
                      have hfz13_5 := blk_frozen BK130.out 5
                      have hfz13_6 := blk_frozen BK130.out 6
                      go_wp2
                      go_meet
                      case rel => exact ⟨_, (true), (by first | rfl | (simp; done) | (simp [*]; done)), H', ⟨by have := HJ2.out; have := HK2.out; first | omega | exact Nat.le_refl _⟩, ⟨by (with_reducible repeat (first | refine blk_drewN ?_ _ | refine blk_drew ?_ | refine blk_alloc ?_ _)); refine blk_put (cs := #[.int .i64 ((rd_T38 l0 x18_2).f0), .int .i64 ((rd_T38 l0 x18_2).f1.f0), .int .i64 ((rd_T38 l0 x18_2).f1.f1), .string ((rd_T38 l0 x18_2).f2), .slice A129_4 ((rd_T38 l0 x18_2).f3).length c129_4, .slice A129_5 ((rd_T38 l0 x18_2).f4).length c129_5, .slice none 0 0]) ?_ 6 _ rfl; (with_reducible repeat (first | refine blk_drewN ?_ _ | refine blk_drew ?_ | refine blk_alloc ?_ _)); refine blk_put (cs := #[.int .i64 ((rd_T38 l0 x18_2).f0), .int .i64 ((rd_T38 l0 x18_2).f1.f0), .int .i64 ((rd_T38 l0 x18_2).f1.f1), .string ((rd_T38 l0 x18_2).f2), .slice A129_4 ((rd_T38 l0 x18_2).f3).length c129_4, .slice none 0 0, .slice none 0 0]) ?_ 5 _ rfl; (with_reducible repeat (first | refine blk_drewN ?_ _ | refine blk_drew ?_ | refine blk_alloc ?_ _)); refine blk_put (cs := #[.int .i64 ((rd_T38 l0 x18_2).f0), .int .i64 ((rd_T38 l0 x18_2).f1.f0), .int .i64 ((rd_T38 l0 x18_2).f1.f1), .string ((rd_T38 l0 x18_2).f2), .slice none 0 0, .slice none 0 0, .slice none 0 0]) ?_ 4 _ rfl; (with_reducible repeat (first | refine blk_drewN ?_ _ | refine blk_drew ?_ | refine blk_alloc ?_ _)); refine blk_put (cs := #[.int .i64 ((rd_T38 l0 x18_2).f0), .int .i64 ((rd_T38 l0 x18_2).f1.f0), .int .i64 ((rd_T38 l0 x18_2).f1.f1), .string (⟨#[]⟩ : ByteArray), .slice none 0 0, .slice none 0 0, .slice none 0 0]) ?_ 3 _ rfl; (with_reducible repeat (first | refine blk_drewN ?_ _ | refine blk_drew ?_ | refine blk_alloc ?_ _)); refine blk_put (cs := #[.int .i64 ((rd_T38 l0 x18_2).f0), .int .i64 ((rd_T38 l0 x18_2).f1.f0), .int .i64 0, .string (⟨#[]⟩ : ByteArray), .slice none 0 0, .slice none 0 0, .slice none 0 0]) ?_ 2 _ rfl; (with_reducible repeat (first | refine blk_drewN ?_ _ | refine blk_drew ?_ | refine blk_alloc ?_ _)); refine blk_put (cs := #[.int .i64 ((rd_T38 l0 x18_2).f0), .int .i64 0, .int .i64 0, .string (⟨#[]⟩ : ByteArray), .slice none 0 0, .slice none 0 0, .slice none 0 0]) ?_ 1 _ rfl; (with_reducible repeat (first | refine blk_drewN ?_ _ | refine blk_drew ?_ | refine blk_alloc ?_ _)); refine blk_put (cs := #[.int .i64 0, .int .i64 0, .int .i64 0, .string (⟨#[]⟩ : ByteArray), .slice none 0 0, .slice none 0 0, .slice none 0 0]) ?_ 0 _ rfl; (with_reducible repeat (first | refine blk_drewN ?_ _ | refine blk_drew ?_ | refine blk_alloc ?_ _)); exact BK130.out⟩, ⟨by repeat (first | (with_reducible first | exact HB.out | apply below_alloc | apply pw_below_drewN | apply below_drew1 | refine below_set ?_ GE130.out) | exact HB.out)⟩⟩
                    · rw [if_neg c12] at H
                      have c12b0 : decide (40 < (((rd_T38 l0 x18_2).f2).size : Int)) = false := decide_eq_false c12
                      have c12b1 : decide (40 < ((rd_T38 l0 x18_2).f2).size) = false := decide_eq_false (by omega)
                      clear c12
                      (first | rw [c12b0] | (simp only [i64_w, i32_w]; rw [c12b0]) | skip)
                      by_cases c14 : (((rd_T38 l0 x18_2).f3).length : Int) > 3
                      · rw [if_pos c14] at H
                        have c14b0 : decide (3 < (((rd_T38 l0 x18_2).f3).length : Int)) = true := decide_eq_true c14
                        have c14b1 : decide (3 < ((rd_T38 l0 x18_2).f3).length) = true := decide_eq_true (by omega)
                        clear c14
                        have H' := Aside0.mk H
                        clear H
                        have hcz15_0 : w10.cell? ⟨gb130, 0, none⟩ = some (.int .i64 0) := (blk_cell BK130.out 0).trans rfl
                        have hcz15_1 : w10.cell? ⟨gb130, 1, none⟩ = some (.int .i64 0) := (blk_cell BK130.out 1).trans rfl
                        have hcz15_2 : w10.cell? ⟨gb130, 2, none⟩ = some (.int .i64 0) := (blk_cell BK130.out 2).trans rfl
                        have hcz15_3 : w10.cell? ⟨gb130, 3, none⟩ = some (.string (⟨#[]⟩ : ByteArray)) := (blk_cell BK130.out 3).trans rfl
                        have hcz15_4 : w10.cell? ⟨gb130, 4, none⟩ = some (.slice none 0 0) := (blk_cell BK130.out 4).trans rfl
                        have hcz15_5 : w10.cell? ⟨gb130, 5, none⟩ = some (.slice none 0 0) := (blk_cell BK130.out 5).trans rfl
                        have hcz15_6 : w10.cell? ⟨gb130, 6, none⟩ = some (.slice none 0 0) := (blk_cell BK130.out 6).trans rfl
                        have hfz15_0 := blk_frozen BK130.out 0
                        have hfz15_1 := blk_frozen BK130.out 1
                        have hfz15_2 := blk_frozen BK130.out 2
                        have hfz15_3 := blk_frozen BK130.out 3
                        have hfz15_4 := blk_frozen BK130.out 4
                        have hfz15_5 := blk_frozen BK130.out 5
                        have hfz15_6 := blk_frozen BK130.out 6
                        go_wp2
                        go_meet
                        case rel => exact ⟨_, (true), (by first | rfl | (simp; done) | (simp [*]; done)), H', ⟨by have := HJ2.out; have := HK2.out; first | omega | exact Nat.le_refl _⟩, ⟨by (with_reducible repeat (first | refine blk_drewN ?_ _ | refine blk_drew ?_ | refine blk_alloc ?_ _)); refine blk_put (cs := #[.int .i64 ((rd_T38 l0 x18_2).f0), .int .i64 ((rd_T38 l0 x18_2).f1.f0), .int .i64 ((rd_T38 l0 x18_2).f1.f1), .string ((rd_T38 l0 x18_2).f2), .slice A129_4 ((rd_T38 l0 x18_2).f3).length c129_4, .slice A129_5 ((rd_T38 l0 x18_2).f4).length c129_5, .slice none 0 0]) ?_ 6 _ rfl; (with_reducible repeat (first | refine blk_drewN ?_ _ | refine blk_drew ?_ | refine blk_alloc ?_ _)); refine blk_put (cs := #[.int .i64 ((rd_T38 l0 x18_2).f0), .int .i64 ((rd_T38 l0 x18_2).f1.f0), .int .i64 ((rd_T38 l0 x18_2).f1.f1), .string ((rd_T38 l0 x18_2).f2), .slice A129_4 ((rd_T38 l0 x18_2).f3).length c129_4, .slice none 0 0, .slice none 0 0]) ?_ 5 _ rfl; (with_reducible repeat (first | refine blk_drewN ?_ _ | refine blk_drew ?_ | refine blk_alloc ?_ _)); refine blk_put (cs := #[.int .i64 ((rd_T38 l0 x18_2).f0), .int .i64 ((rd_T38 l0 x18_2).f1.f0), .int .i64 ((rd_T38 l0 x18_2).f1.f1), .string ((rd_T38 l0 x18_2).f2), .slice none 0 0, .slice none 0 0, .slice none 0 0]) ?_ 4 _ rfl; (with_reducible repeat (first | refine blk_drewN ?_ _ | refine blk_drew ?_ | refine blk_alloc ?_ _)); refine blk_put (cs := #[.int .i64 ((rd_T38 l0 x18_2).f0), .int .i64 ((rd_T38 l0 x18_2).f1.f0), .int .i64 ((rd_T38 l0 x18_2).f1.f1), .string (⟨#[]⟩ : ByteArray), .slice none 0 0, .slice none 0 0, .slice none 0 0]) ?_ 3 _ rfl; (with_reducible repeat (first | refine blk_drewN ?_ _ | refine blk_drew ?_ | refine blk_alloc ?_ _)); refine blk_put (cs := #[.int .i64 ((rd_T38 l0 x18_2).f0), .int .i64 ((rd_T38 l0 x18_2).f1.f0), .int .i64 0, .string (⟨#[]⟩ : ByteArray), .slice none 0 0, .slice none 0 0, .slice none 0 0]) ?_ 2 _ rfl; (with_reducible repeat (first | refine blk_drewN ?_ _ | refine blk_drew ?_ | refine blk_alloc ?_ _)); refine blk_put (cs := #[.int .i64 ((rd_T38 l0 x18_2).f0), .int .i64 0, .int .i64 0, .string (⟨#[]⟩ : ByteArray), .slice none 0 0, .slice none 0 0, .slice none 0 0]) ?_ 1 _ rfl; (with_reducible repeat (first | refine blk_drewN ?_ _ | refine blk_drew ?_ | refine blk_alloc ?_ _)); refine blk_put (cs := #[.int .i64 0, .int .i64 0, .int .i64 0, .string (⟨#[]⟩ : ByteArray), .slice none 0 0, .slice none 0 0, .slice none 0 0]) ?_ 0 _ rfl; (with_reducible repeat (first | refine blk_drewN ?_ _ | refine blk_drew ?_ | refine blk_alloc ?_ _)); exact BK130.out⟩, ⟨by repeat (first | (with_reducible first | exact HB.out | apply below_alloc | apply pw_below_drewN | apply below_drew1 | refine below_set ?_ GE130.out) | exact HB.out)⟩⟩
                      · rw [if_neg c14] at H
                        have c14b0 : decide (3 < (((rd_T38 l0 x18_2).f3).length : Int)) = false := decide_eq_false c14
                        have c14b1 : decide (3 < ((rd_T38 l0 x18_2).f3).length) = false := decide_eq_false (by omega)
                        clear c14
                        replace H := Option.bind_eq_some_iff.mp H
                        obtain ⟨t131, A160, H⟩ := H
                        replace H : (if t131 = true then ((palingslaw03_FewStmts.f k2 ((rd_T38 l0 x18_2).f5) (wrap64 (a1 + 1))).bind fun t132 => (palingslaw03_FewStmts.j2 k2 a1 l0 (l0.length : Int) x18_2 (!t132) ((rd_T38 l0 x18_2).f0) ((rd_T38 l0 x18_2).f1.f0) ((rd_T38 l0 x18_2).f1.f1) ((rd_T38 l0 x18_2).f2) ((rd_T38 l0 x18_2).f3) ((rd_T38 l0 x18_2).f4) ((rd_T38 l0 x18_2).f5))) else (palingslaw03_FewStmts.j2 k2 a1 l0 (l0.length : Int) x18_2 true ((rd_T38 l0 x18_2).f0) ((rd_T38 l0 x18_2).f1.f0) ((rd_T38 l0 x18_2).f1.f1) ((rd_T38 l0 x18_2).f2) ((rd_T38 l0 x18_2).f3) ((rd_T38 l0 x18_2).f4) ((rd_T38 l0 x18_2).f5))) = some r := H
                        have A16 := Aside0.mk A160
                        clear A160
                        by_cases c17 : t131 = true
                        · subst c17
                          have H1 : ((palingslaw03_FewStmts.f k2 ((rd_T38 l0 x18_2).f5) (wrap64 (a1 + 1))).bind fun t132 => (palingslaw03_FewStmts.j2 k2 a1 l0 (l0.length : Int) x18_2 (!t132) ((rd_T38 l0 x18_2).f0) ((rd_T38 l0 x18_2).f1.f0) ((rd_T38 l0 x18_2).f1.f1) ((rd_T38 l0 x18_2).f2) ((rd_T38 l0 x18_2).f3) ((rd_T38 l0 x18_2).f4) ((rd_T38 l0 x18_2).f5))) = some r := by rw [if_pos rfl] at H; exact H
                          clear H
                          have H := H1
                          clear H1
                          replace H := Option.bind_eq_some_iff.mp H
                          obtain ⟨t132, A180, H⟩ := H
                          replace H : (palingslaw03_FewStmts.j2 k2 a1 l0 (l0.length : Int) x18_2 (!t132) ((rd_T38 l0 x18_2).f0) ((rd_T38 l0 x18_2).f1.f0) ((rd_T38 l0 x18_2).f1.f1) ((rd_T38 l0 x18_2).f2) ((rd_T38 l0 x18_2).f3) ((rd_T38 l0 x18_2).f4) ((rd_T38 l0 x18_2).f5)) = some r := H
                          have A18 := Aside0.mk A180
                          clear A180
                          have H' := Aside0.mk H
                          clear H
                          have hcz19_0 : w10.cell? ⟨gb130, 0, none⟩ = some (.int .i64 0) := (blk_cell BK130.out 0).trans rfl
                          have hcz19_1 : w10.cell? ⟨gb130, 1, none⟩ = some (.int .i64 0) := (blk_cell BK130.out 1).trans rfl
                          have hcz19_2 : w10.cell? ⟨gb130, 2, none⟩ = some (.int .i64 0) := (blk_cell BK130.out 2).trans rfl
                          have hcz19_3 : w10.cell? ⟨gb130, 3, none⟩ = some (.string (⟨#[]⟩ : ByteArray)) := (blk_cell BK130.out 3).trans rfl
                          have hcz19_4 : w10.cell? ⟨gb130, 4, none⟩ = some (.slice none 0 0) := (blk_cell BK130.out 4).trans rfl
                          have hcz19_5 : w10.cell? ⟨gb130, 5, none⟩ = some (.slice none 0 0) := (blk_cell BK130.out 5).trans rfl
                          have hcz19_6 : w10.cell? ⟨gb130, 6, none⟩ = some (.slice none 0 0) := (blk_cell BK130.out 6).trans rfl
                          have hfz19_0 := blk_frozen BK130.out 0
                          have hfz19_1 := blk_frozen BK130.out 1
                          have hfz19_2 := blk_frozen BK130.out 2
                          have hfz19_3 := blk_frozen BK130.out 3
                          have hfz19_4 := blk_frozen BK130.out 4
                          have hfz19_5 := blk_frozen BK130.out 5
                          have hfz19_6 := blk_frozen BK130.out 6
                          go_wp2_with (first | (go_at_call 14; (with_reducible refine (ih k2 (by have := HJ2.out; have := HK2.out; omega) _ _ ((rd_T38 l0 x18_2).f4) (wrap64 (a1 + 1)) true _ ?side1 ?side2 A16.out).mono ?_); (case side1 => exact Kd.C_below HR129_5.out (by repeat (first | (with_reducible first | exact HB.out | apply below_alloc | apply pw_below_drewN | apply below_drew1 | refine below_set ?_ GE130.out) | exact HB.out))); (case side2 => exact HC129_5.out); rintro e w20 ⟨rfl, hb⟩; have n0_ := Aside0.mk (blk_below (g := gb130) (o := .cells #[.int .i64 ((rd_T38 l0 x18_2).f0), .int .i64 ((rd_T38 l0 x18_2).f1.f0), .int .i64 ((rd_T38 l0 x18_2).f1.f1), .string ((rd_T38 l0 x18_2).f2), .slice A129_4 ((rd_T38 l0 x18_2).f3).length c129_4, .slice A129_5 ((rd_T38 l0 x18_2).f4).length c129_5, .slice A129_6 ((rd_T38 l0 x18_2).f5).length c129_6] 38 (0, 0)) (by (with_reducible repeat (first | refine blk_drewN ?_ _ | refine blk_drew ?_ | refine blk_alloc ?_ _)); refine blk_put (cs := #[.int .i64 ((rd_T38 l0 x18_2).f0), .int .i64 ((rd_T38 l0 x18_2).f1.f0), .int .i64 ((rd_T38 l0 x18_2).f1.f1), .string ((rd_T38 l0 x18_2).f2), .slice A129_4 ((rd_T38 l0 x18_2).f3).length c129_4, .slice A129_5 ((rd_T38 l0 x18_2).f4).length c129_5, .slice none 0 0]) ?_ 6 _ rfl; (with_reducible repeat (first | refine blk_drewN ?_ _ | refine blk_drew ?_ | refine blk_alloc ?_ _)); refine blk_put (cs := #[.int .i64 ((rd_T38 l0 x18_2).f0), .int .i64 ((rd_T38 l0 x18_2).f1.f0), .int .i64 ((rd_T38 l0 x18_2).f1.f1), .string ((rd_T38 l0 x18_2).f2), .slice A129_4 ((rd_T38 l0 x18_2).f3).length c129_4, .slice none 0 0, .slice none 0 0]) ?_ 5 _ rfl; (with_reducible repeat (first | refine blk_drewN ?_ _ | refine blk_drew ?_ | refine blk_alloc ?_ _)); refine blk_put (cs := #[.int .i64 ((rd_T38 l0 x18_2).f0), .int .i64 ((rd_T38 l0 x18_2).f1.f0), .int .i64 ((rd_T38 l0 x18_2).f1.f1), .string ((rd_T38 l0 x18_2).f2), .slice none 0 0, .slice none 0 0, .slice none 0 0]) ?_ 4 _ rfl; (with_reducible repeat (first | refine blk_drewN ?_ _ | refine blk_drew ?_ | refine blk_alloc ?_ _)); refine blk_put (cs := #[.int .i64 ((rd_T38 l0 x18_2).f0), .int .i64 ((rd_T38 l0 x18_2).f1.f0), .int .i64 ((rd_T38 l0 x18_2).f1.f1), .string (⟨#[]⟩ : ByteArray), .slice none 0 0, .slice none 0 0, .slice none 0 0]) ?_ 3 _ rfl; (with_reducible repeat (first | refine blk_drewN ?_ _ | refine blk_drew ?_ | refine blk_alloc ?_ _)); refine blk_put (cs := #[.int .i64 ((rd_T38 l0 x18_2).f0), .int .i64 ((rd_T38 l0 x18_2).f1.f0), .int .i64 0, .string (⟨#[]⟩ : ByteArray), .slice none 0 0, .slice none 0 0, .slice none 0 0]) ?_ 2 _ rfl; (with_reducible repeat (first | refine blk_drewN ?_ _ | refine blk_drew ?_ | refine blk_alloc ?_ _)); refine blk_put (cs := #[.int .i64 ((rd_T38 l0 x18_2).f0), .int .i64 0, .int .i64 0, .string (⟨#[]⟩ : ByteArray), .slice none 0 0, .slice none 0 0, .slice none 0 0]) ?_ 1 _ rfl; (with_reducible repeat (first | refine blk_drewN ?_ _ | refine blk_drew ?_ | refine blk_alloc ?_ _)); refine blk_put (cs := #[.int .i64 0, .int .i64 0, .int .i64 0, .string (⟨#[]⟩ : ByteArray), .slice none 0 0, .slice none 0 0, .slice none 0 0]) ?_ 0 _ rfl; (with_reducible repeat (first | refine blk_drewN ?_ _ | refine blk_drew ?_ | refine blk_alloc ?_ _)); exact BK130.out) hb); have n1_ := Aside0.mk (below_step (by repeat (first | (with_reducible first | exact HB.out | apply below_alloc | apply pw_below_drewN | apply below_drew1 | refine below_set ?_ GE130.out) | exact HB.out)) hb); clear BK130; clear HB; have BK130 := n0_; have HB := n1_; clear n0_ n1_; (try clear hb); (try clear hb2); (try clear hk); (try clear hi); have hcz21_0 : w20.cell? ⟨gb130, 0, none⟩ = some (.int .i64 ((rd_T38 l0 x18_2).f0)) := (blk_cell BK130.out 0).trans rfl; have hcz21_1 : w20.cell? ⟨gb130, 1, none⟩ = some (.int .i64 ((rd_T38 l0 x18_2).f1.f0)) := (blk_cell BK130.out 1).trans rfl; have hcz21_2 : w20.cell? ⟨gb130, 2, none⟩ = some (.int .i64 ((rd_T38 l0 x18_2).f1.f1)) := (blk_cell BK130.out 2).trans rfl; have hcz21_3 : w20.cell? ⟨gb130, 3, none⟩ = some (.string ((rd_T38 l0 x18_2).f2)) := (blk_cell BK130.out 3).trans rfl; have hcz21_4 : w20.cell? ⟨gb130, 4, none⟩ = some (.slice A129_4 ((rd_T38 l0 x18_2).f3).length c129_4) := (blk_cell BK130.out 4).trans rfl; have hcz21_5 : w20.cell? ⟨gb130, 5, none⟩ = some (.slice A129_5 ((rd_T38 l0 x18_2).f4).length c129_5) := (blk_cell BK130.out 5).trans rfl; have hcz21_6 : w20.cell? ⟨gb130, 6, none⟩ = some (.slice A129_6 ((rd_T38 l0 x18_2).f5).length c129_6) := (blk_cell BK130.out 6).trans rfl; have hfz21_0 := blk_frozen BK130.out 0; have hfz21_1 := blk_frozen BK130.out 1; have hfz21_2 := blk_frozen BK130.out 2; have hfz21_3 := blk_frozen BK130.out 3; have hfz21_4 := blk_frozen BK130.out 4; have hfz21_5 := blk_frozen BK130.out 5; have hfz21_6 := blk_frozen BK130.out 6) | (go_at_call 14; (with_reducible refine (ih k2 (by have := HJ2.out; have := HK2.out; omega) _ _ ((rd_T38 l0 x18_2).f5) (wrap64 (a1 + 1)) t132 _ ?side1 ?side2 A18.out).mono ?_); (case side1 => repeat (first | exact (Kd.C_below HR129_6.out HB.out) | (with_reducible refine Kd.C_alloc ?_ _) | (with_reducible refine Kd.C_drewN ?_ _) | (with_reducible refine Kd.C_drew ?_))); (case side2 => exact HC129_6.out); rintro e w22 ⟨rfl, hb⟩; have n0_ := Aside0.mk (blk_below (g := gb130) (o := .cells #[.int .i64 ((rd_T38 l0 x18_2).f0), .int .i64 ((rd_T38 l0 x18_2).f1.f0), .int .i64 ((rd_T38 l0 x18_2).f1.f1), .string ((rd_T38 l0 x18_2).f2), .slice A129_4 ((rd_T38 l0 x18_2).f3).length c129_4, .slice A129_5 ((rd_T38 l0 x18_2).f4).length c129_5, .slice A129_6 ((rd_T38 l0 x18_2).f5).length c129_6] 38 (0, 0)) (by (with_reducible repeat (first | refine blk_drewN ?_ _ | refine blk_drew ?_ | refine blk_alloc ?_ _)); exact BK130.out) hb); have n1_ := Aside0.mk (below_step (by repeat (first | (with_reducible first | exact HB.out | apply below_alloc | apply pw_below_drewN | apply below_drew1 | refine below_set ?_ GE130.out) | exact HB.out)) hb); clear BK130; clear HB; have BK130 := n0_; have HB := n1_; clear n0_ n1_; (try clear hb); (try clear hb2); (try clear hk); (try clear hi)))
                          go_meet
                          case rel => exact ⟨_, (!t132), (by first | rfl | (simp; done) | (simp [*]; done)), H', ⟨by have := HJ2.out; have := HK2.out; first | omega | exact Nat.le_refl _⟩, ⟨by (with_reducible repeat (first | refine blk_drewN ?_ _ | refine blk_drew ?_ | refine blk_alloc ?_ _)); exact BK130.out⟩, ⟨by repeat (first | (with_reducible first | exact HB.out | apply below_alloc | apply pw_below_drewN | apply below_drew1 | refine below_set ?_ GE130.out) | exact HB.out)⟩⟩
                        · replace c17 := Bool.eq_false_iff.mpr c17
                          subst c17
                          have H1 : (palingslaw03_FewStmts.j2 k2 a1 l0 (l0.length : Int) x18_2 true ((rd_T38 l0 x18_2).f0) ((rd_T38 l0 x18_2).f1.f0) ((rd_T38 l0 x18_2).f1.f1) ((rd_T38 l0 x18_2).f2) ((rd_T38 l0 x18_2).f3) ((rd_T38 l0 x18_2).f4) ((rd_T38 l0 x18_2).f5)) = some r := by rw [if_neg (show ¬ (false = true) by decide)] at H; exact H
                          clear H
                          have H := H1
                          clear H1
                          have H' := Aside0.mk H
                          clear H
                          have hcz23_0 : w10.cell? ⟨gb130, 0, none⟩ = some (.int .i64 0) := (blk_cell BK130.out 0).trans rfl
                          have hcz23_1 : w10.cell? ⟨gb130, 1, none⟩ = some (.int .i64 0) := (blk_cell BK130.out 1).trans rfl
                          have hcz23_2 : w10.cell? ⟨gb130, 2, none⟩ = some (.int .i64 0) := (blk_cell BK130.out 2).trans rfl
                          have hcz23_3 : w10.cell? ⟨gb130, 3, none⟩ = some (.string (⟨#[]⟩ : ByteArray)) := (blk_cell BK130.out 3).trans rfl
                          have hcz23_4 : w10.cell? ⟨gb130, 4, none⟩ = some (.slice none 0 0) := (blk_cell BK130.out 4).trans rfl
                          have hcz23_5 : w10.cell? ⟨gb130, 5, none⟩ = some (.slice none 0 0) := (blk_cell BK130.out 5).trans rfl
                          have hcz23_6 : w10.cell? ⟨gb130, 6, none⟩ = some (.slice none 0 0) := (blk_cell BK130.out 6).trans rfl
                          have hfz23_0 := blk_frozen BK130.out 0
                          have hfz23_1 := blk_frozen BK130.out 1
                          have hfz23_2 := blk_frozen BK130.out 2
                          have hfz23_3 := blk_frozen BK130.out 3
                          have hfz23_4 := blk_frozen BK130.out 4
                          have hfz23_5 := blk_frozen BK130.out 5
                          have hfz23_6 := blk_frozen BK130.out 6
                          go_wp2_with (first | (go_at_call 14; (with_reducible refine (ih k2 (by have := HJ2.out; have := HK2.out; omega) _ _ ((rd_T38 l0 x18_2).f4) (wrap64 (a1 + 1)) false _ ?side1 ?side2 A16.out).mono ?_); (case side1 => exact Kd.C_below HR129_5.out (by repeat (first | (with_reducible first | exact HB.out | apply below_alloc | apply pw_below_drewN | apply below_drew1 | refine below_set ?_ GE130.out) | exact HB.out))); (case side2 => exact HC129_5.out); rintro e w24 ⟨rfl, hb⟩; have n0_ := Aside0.mk (blk_below (g := gb130) (o := .cells #[.int .i64 ((rd_T38 l0 x18_2).f0), .int .i64 ((rd_T38 l0 x18_2).f1.f0), .int .i64 ((rd_T38 l0 x18_2).f1.f1), .string ((rd_T38 l0 x18_2).f2), .slice A129_4 ((rd_T38 l0 x18_2).f3).length c129_4, .slice A129_5 ((rd_T38 l0 x18_2).f4).length c129_5, .slice A129_6 ((rd_T38 l0 x18_2).f5).length c129_6] 38 (0, 0)) (by (with_reducible repeat (first | refine blk_drewN ?_ _ | refine blk_drew ?_ | refine blk_alloc ?_ _)); refine blk_put (cs := #[.int .i64 ((rd_T38 l0 x18_2).f0), .int .i64 ((rd_T38 l0 x18_2).f1.f0), .int .i64 ((rd_T38 l0 x18_2).f1.f1), .string ((rd_T38 l0 x18_2).f2), .slice A129_4 ((rd_T38 l0 x18_2).f3).length c129_4, .slice A129_5 ((rd_T38 l0 x18_2).f4).length c129_5, .slice none 0 0]) ?_ 6 _ rfl; (with_reducible repeat (first | refine blk_drewN ?_ _ | refine blk_drew ?_ | refine blk_alloc ?_ _)); refine blk_put (cs := #[.int .i64 ((rd_T38 l0 x18_2).f0), .int .i64 ((rd_T38 l0 x18_2).f1.f0), .int .i64 ((rd_T38 l0 x18_2).f1.f1), .string ((rd_T38 l0 x18_2).f2), .slice A129_4 ((rd_T38 l0 x18_2).f3).length c129_4, .slice none 0 0, .slice none 0 0]) ?_ 5 _ rfl; (with_reducible repeat (first | refine blk_drewN ?_ _ | refine blk_drew ?_ | refine blk_alloc ?_ _)); refine blk_put (cs := #[.int .i64 ((rd_T38 l0 x18_2).f0), .int .i64 ((rd_T38 l0 x18_2).f1.f0), .int .i64 ((rd_T38 l0 x18_2).f1.f1), .string ((rd_T38 l0 x18_2).f2), .slice none 0 0, .slice none 0 0, .slice none 0 0]) ?_ 4 _ rfl; (with_reducible repeat (first | refine blk_drewN ?_ _ | refine blk_drew ?_ | refine blk_alloc ?_ _)); refine blk_put (cs := #[.int .i64 ((rd_T38 l0 x18_2).f0), .int .i64 ((rd_T38 l0 x18_2).f1.f0), .int .i64 ((rd_T38 l0 x18_2).f1.f1), .string (⟨#[]⟩ : ByteArray), .slice none 0 0, .slice none 0 0, .slice none 0 0]) ?_ 3 _ rfl; (with_reducible repeat (first | refine blk_drewN ?_ _ | refine blk_drew ?_ | refine blk_alloc ?_ _)); refine blk_put (cs := #[.int .i64 ((rd_T38 l0 x18_2).f0), .int .i64 ((rd_T38 l0 x18_2).f1.f0), .int .i64 0, .string (⟨#[]⟩ : ByteArray), .slice none 0 0, .slice none 0 0, .slice none 0 0]) ?_ 2 _ rfl; (with_reducible repeat (first | refine blk_drewN ?_ _ | refine blk_drew ?_ | refine blk_alloc ?_ _)); refine blk_put (cs := #[.int .i64 ((rd_T38 l0 x18_2).f0), .int .i64 0, .int .i64 0, .string (⟨#[]⟩ : ByteArray), .slice none 0 0, .slice none 0 0, .slice none 0 0]) ?_ 1 _ rfl; (with_reducible repeat (first | refine blk_drewN ?_ _ | refine blk_drew ?_ | refine blk_alloc ?_ _)); refine blk_put (cs := #[.int .i64 0, .int .i64 0, .int .i64 0, .string (⟨#[]⟩ : ByteArray), .slice none 0 0, .slice none 0 0, .slice none 0 0]) ?_ 0 _ rfl; (with_reducible repeat (first | refine blk_drewN ?_ _ | refine blk_drew ?_ | refine blk_alloc ?_ _)); exact BK130.out) hb); have n1_ := Aside0.mk (below_step (by repeat (first | (with_reducible first | exact HB.out | apply below_alloc | apply pw_below_drewN | apply below_drew1 | refine below_set ?_ GE130.out) | exact HB.out)) hb); clear BK130; clear HB; have BK130 := n0_; have HB := n1_; clear n0_ n1_; (try clear hb); (try clear hb2); (try clear hk); (try clear hi)))
                          go_meet
                          case rel => exact ⟨_, (true), (by first | rfl | (simp; done) | (simp [*]; done)), H', ⟨by have := HJ2.out; have := HK2.out; first | omega | exact Nat.le_refl _⟩, ⟨by (with_reducible repeat (first | refine blk_drewN ?_ _ | refine blk_drew ?_ | refine blk_alloc ?_ _)); exact BK130.out⟩, ⟨by repeat (first | (with_reducible first | exact HB.out | apply below_alloc | apply pw_below_drewN | apply below_drew1 | refine below_set ?_ GE130.out) | exact HB.out)⟩⟩
                  case rest =>
                    clear HC9
                    try clear c1
                    try clear p1
                    try clear q1
                    try clear hx1
                    try clear p2
                    try clear c4
                    try clear c4b0
                    try clear c5
                    try clear c6
                    try clear c6b0
                    try clear p6
                    try clear c7
                    try clear c7b0
                    try clear c8
                    try clear c8b0
                    try clear c12
                    try clear c12b0
                    try clear c12b1
                    try clear p12
                    try clear q12
                    try clear hx12
                    try clear c14
                    try clear c14b0
                    try clear c14b1
                    try clear c17
                    try clear hcz11_0
                    try clear hcz11_1
                    try clear hcz11_2
                    try clear hcz11_3
                    try clear hcz11_4
                    try clear hcz11_5
                    try clear hcz11_6
                    try clear hcz13_0
                    try clear hcz13_1
                    try clear hcz13_2
                    try clear hcz13_3
                    try clear hcz13_4
                    try clear hcz13_5
                    try clear hcz13_6
                    try clear hcz15_0
                    try clear hcz15_1
                    try clear hcz15_2
                    try clear hcz15_3
                    try clear hcz15_4
                    try clear hcz15_5
                    try clear hcz15_6
                    try clear hcz19_0
                    try clear hcz19_1
                    try clear hcz19_2
                    try clear hcz19_3
                    try clear hcz19_4
                    try clear hcz19_5
                    try clear hcz19_6
                    try clear hcz21_0
                    try clear hcz21_1
                    try clear hcz21_2
                    try clear hcz21_3
                    try clear hcz21_4
                    try clear hcz21_5
                    try clear hcz21_6
                    try clear hcz23_0
                    try clear hcz23_1
                    try clear hcz23_2
                    try clear hcz23_3
                    try clear hcz23_4
                    try clear hcz23_5
                    try clear hcz23_6
                    try clear hfz11_0
                    try clear hfz11_1
                    try clear hfz11_2
                    try clear hfz11_3
                    try clear hfz11_4
                    try clear hfz11_5
                    try clear hfz11_6
                    try clear hfz13_0
                    try clear hfz13_1
                    try clear hfz13_2
                    try clear hfz13_3
                    try clear hfz13_4
                    try clear hfz13_5
                    try clear hfz13_6
                    try clear hfz15_0
                    try clear hfz15_1
                    try clear hfz15_2
                    try clear hfz15_3
                    try clear hfz15_4
                    try clear hfz15_5
                    try clear hfz15_6
                    try clear hfz19_0
                    try clear hfz19_1
                    try clear hfz19_2
                    try clear hfz19_3
                    try clear hfz19_4
                    try clear hfz19_5
                    try clear hfz19_6
                    try clear hfz21_0
                    try clear hfz21_1
                    try clear hfz21_2
                    try clear hfz21_3
                    try clear hfz21_4
                    try clear hfz21_5
                    try clear hfz21_6
                    try clear hfz23_0
                    try clear hfz23_1
                    try clear hfz23_2
                    try clear hfz23_3
                    try clear hfz23_4
                    try clear hfz23_5
                    try clear hfz23_6
                    try clear hx129_0
                    try clear hx129_1
                    try clear hx129_2
                    try clear hx129_3
                    try clear hx129_4
                    try clear hx129_5
                    try clear hx129_6
                    try clear p129
                    try clear p2
                    try clear q129
                    obtain ⟨kq, x47_8, rfl, HA, HJ8, BK130, HB⟩ := hcut
                    cases kq with
                    | zero => exact absurd HA.out (by simp [palingslaw03_FewStmts.j2])
                    | succ kj8 =>
                      have H := HA.out
                      clear HA
                      simp only [palingslaw03_FewStmts.j2] at H
                      by_cases c25 : x47_8 = true
                      · subst c25
                        have H1 : (some false) = some r := by rw [if_pos rfl] at H; exact H
                        clear H
                        have H := H1
                        clear H1
                        obtain rfl := Option.some.inj H
                        go_wp2
                        go_ret
                        exact ⟨by first | rfl | (simp [errW_none, errW_some] <;> rfl) | (simp [*, errW_none, errW_some] <;> rfl), by repeat (first | (with_reducible first | exact HB.out | apply below_alloc | apply pw_below_drewN | apply below_drew1 | refine below_set ?_ GE130.out) | exact HB.out)⟩
                      · replace c25 := Bool.eq_false_iff.mpr c25
                        subst c25
                        have H1 : (palingslaw03_FewStmts.l1 kj8 a1 l0 (l0.length : Int) x18_2 ((rd_T38 l0 x18_2).f3) (((rd_T38 l0 x18_2).f3).length : Int) 0) = some r := by rw [if_neg (show ¬ (false = true) by decide)] at H; exact H
                        clear H
                        have H := H1
                        clear H1
                        have H' := Aside0.mk H
                        clear H
                        have hcz26_0 : wc.cell? ⟨gb130, 0, none⟩ = some (.int .i64 ((rd_T38 l0 x18_2).f0)) := (blk_cell BK130.out 0).trans rfl
                        have hcz26_1 : wc.cell? ⟨gb130, 1, none⟩ = some (.int .i64 ((rd_T38 l0 x18_2).f1.f0)) := (blk_cell BK130.out 1).trans rfl
                        have hcz26_2 : wc.cell? ⟨gb130, 2, none⟩ = some (.int .i64 ((rd_T38 l0 x18_2).f1.f1)) := (blk_cell BK130.out 2).trans rfl
                        have hcz26_3 : wc.cell? ⟨gb130, 3, none⟩ = some (.string ((rd_T38 l0 x18_2).f2)) := (blk_cell BK130.out 3).trans rfl
                        have hcz26_4 : wc.cell? ⟨gb130, 4, none⟩ = some (.slice A129_4 ((rd_T38 l0 x18_2).f3).length c129_4) := (blk_cell BK130.out 4).trans rfl
                        have hcz26_5 : wc.cell? ⟨gb130, 5, none⟩ = some (.slice A129_5 ((rd_T38 l0 x18_2).f4).length c129_5) := (blk_cell BK130.out 5).trans rfl
                        have hcz26_6 : wc.cell? ⟨gb130, 6, none⟩ = some (.slice A129_6 ((rd_T38 l0 x18_2).f5).length c129_6) := (blk_cell BK130.out 6).trans rfl
                        have hfz26_0 := blk_frozen BK130.out 0
                        have hfz26_1 := blk_frozen BK130.out 1
                        have hfz26_2 := blk_frozen BK130.out 2
                        have hfz26_3 := blk_frozen BK130.out 3
                        have hfz26_4 := blk_frozen BK130.out 4
                        have hfz26_5 := blk_frozen BK130.out 5
                        have hfz26_6 := blk_frozen BK130.out 6
                        go_wp2
                        go_loopg [51] kj8 (fun kq v51 w' => ∃ (x51_4 : Int), v51 = .int .i64 x51_4 ∧ Aside0 (palingslaw03_FewStmts.l1 kq a1 l0 (l0.length : Int) x18_2 ((rd_T38 l0 x18_2).f3) (((rd_T38 l0 x18_2).f3).length : Int) x51_4 = some r) ∧ Aside0 (kq ≤ kj8) ∧ Aside0 (w'.heap[gb130]? = some (.cells #[.int .i64 ((rd_T38 l0 x18_2).f0), .int .i64 ((rd_T38 l0 x18_2).f1.f0), .int .i64 ((rd_T38 l0 x18_2).f1.f1), .string ((rd_T38 l0 x18_2).f2), (.slice A129_4 ((rd_T38 l0 x18_2).f3).length c129_4), (.slice A129_5 ((rd_T38 l0 x18_2).f4).length c129_5), (.slice A129_6 ((rd_T38 l0 x18_2).f5).length c129_6)] 38 (0, 0))) ∧ Aside0 (Below w.heap.size w w'))
                        case atStart => exact ⟨(0), (by first | rfl | (simp; done) | (simp [*]; done)), H', ⟨Nat.le_refl _⟩, ⟨by (with_reducible repeat (first | refine blk_drewN ?_ _ | refine blk_drew ?_ | refine blk_alloc ?_ _)); exact BK130.out⟩, ⟨by repeat (first | (with_reducible first | exact HB.out | apply below_alloc | apply pw_below_drewN | apply below_drew1 | refine below_set ?_ GE130.out) | exact HB.out)⟩⟩
                        case round =>
                          clear H'
                          try clear c1
                          try clear p1
                          try clear q1
                          try clear hx1
                          try clear c2
                          try clear p2
                          try clear c4
                          try clear c4b0
                          try clear c5
                          try clear c6
                          try clear c6b0
                          try clear p6
                          try clear c7
                          try clear c7b0
                          try clear c8
                          try clear c8b0
                          try clear c12
                          try clear c12b0
                          try clear c12b1
                          try clear p12
                          try clear q12
                          try clear hx12
                          try clear c14
                          try clear c14b0
                          try clear c14b1
                          try clear c17
                          try clear c25
                          try clear hcz11_0
                          try clear hcz11_1
                          try clear hcz11_2
                          try clear hcz11_3
                          try clear hcz11_4
                          try clear hcz11_5
                          try clear hcz11_6
                          try clear hcz13_0
                          try clear hcz13_1
                          try clear hcz13_2
                          try clear hcz13_3
                          try clear hcz13_4
                          try clear hcz13_5
                          try clear hcz13_6
                          try clear hcz15_0
                          try clear hcz15_1
                          try clear hcz15_2
                          try clear hcz15_3
                          try clear hcz15_4
                          try clear hcz15_5
                          try clear hcz15_6
                          try clear hcz19_0
                          try clear hcz19_1
                          try clear hcz19_2
                          try clear hcz19_3
                          try clear hcz19_4
                          try clear hcz19_5
                          try clear hcz19_6
                          try clear hcz21_0
                          try clear hcz21_1
                          try clear hcz21_2
                          try clear hcz21_3
                          try clear hcz21_4
                          try clear hcz21_5
                          try clear hcz21_6
                          try clear hcz23_0
                          try clear hcz23_1
                          try clear hcz23_2
                          try clear hcz23_3
                          try clear hcz23_4
                          try clear hcz23_5
                          try clear hcz23_6
                          try clear hcz26_0
                          try clear hcz26_1
                          try clear hcz26_2
                          try clear hcz26_3
                          try clear hcz26_4
                          try clear hcz26_5
                          try clear hcz26_6
                          try clear hfz11_0
                          try clear hfz11_1
                          try clear hfz11_2
                          try clear hfz11_3
                          try clear hfz11_4
                          try clear hfz11_5
                          try clear hfz11_6
                          try clear hfz13_0
                          try clear hfz13_1
                          try clear hfz13_2
                          try clear hfz13_3
                          try clear hfz13_4
                          try clear hfz13_5
                          try clear hfz13_6
                          try clear hfz15_0
                          try clear hfz15_1
                          try clear hfz15_2
                          try clear hfz15_3
                          try clear hfz15_4
                          try clear hfz15_5
                          try clear hfz15_6
                          try clear hfz19_0
                          try clear hfz19_1
                          try clear hfz19_2
                          try clear hfz19_3
                          try clear hfz19_4
                          try clear hfz19_5
                          try clear hfz19_6
                          try clear hfz21_0
                          try clear hfz21_1
                          try clear hfz21_2
                          try clear hfz21_3
                          try clear hfz21_4
                          try clear hfz21_5
                          try clear hfz21_6
                          try clear hfz23_0
                          try clear hfz23_1
                          try clear hfz23_2
                          try clear hfz23_3
                          try clear hfz23_4
                          try clear hfz23_5
                          try clear hfz23_6
                          try clear hfz26_0
                          try clear hfz26_1
                          try clear hfz26_2
                          try clear hfz26_3
                          try clear hfz26_4
                          try clear hfz26_5
                          try clear hfz26_6
                          try clear hx129_0
                          try clear hx129_1
                          try clear hx129_2
                          try clear hx129_3
                          try clear hx129_4
                          try clear hx129_5
                          try clear hx129_6
                          try clear p1
                          try clear p12
                          try clear p129
                          try clear p2
                          try clear p6
                          try clear q1
                          try clear q12
                          try clear q129
                          obtain ⟨x51_4, rfl, HA, HK4, BK130, HB⟩ := hrel
                          cases gk with
                          | zero => exact absurd HA.out (by simp [palingslaw03_FewStmts.l1])
                          | succ k4 =>
                            have H := HA.out
                            clear HA
                            simp only [palingslaw03_FewStmts.l1] at H
                            by_cases c27 : x51_4 < (((rd_T38 l0 x18_2).f3).length : Int)
                            · rw [if_pos c27] at H
                              have c27b0 : decide (x51_4 < (((rd_T38 l0 x18_2).f3).length : Int)) = true := decide_eq_true c27
                              clear c27
                              by_cases c28 : 0 ≤ x51_4
                              · rw [if_pos c28] at H
                                have c28b0 : decide (0 ≤ x51_4) = true := decide_eq_true c28
                                clear c28
                                by_cases c29 : x51_4 < (((rd_T38 l0 x18_2).f3).length : Int)
                                · rw [if_pos c29] at H
                                  have c29b0 : decide (x51_4 < (((rd_T38 l0 x18_2).f3).length : Int)) = true := decide_eq_true c29
                                  clear c29
                                  replace H := Option.bind_eq_some_iff.mp H
                                  obtain ⟨t135, A300, H⟩ := H
                                  replace H : (if t135 = true then (palingslaw03_FewStmts.l1 k4 a1 l0 (l0.length : Int) x18_2 ((rd_T38 l0 x18_2).f3) (((rd_T38 l0 x18_2).f3).length : Int) (wrap64 (x51_4 + 1))) else (some false)) = some r := H
                                  have A30 := Aside0.mk A300
                                  clear A300
                                  by_cases c31 : t135 = true
                                  · subst c31
                                    have H1 : (palingslaw03_FewStmts.l1 k4 a1 l0 (l0.length : Int) x18_2 ((rd_T38 l0 x18_2).f3) (((rd_T38 l0 x18_2).f3).length : Int) (wrap64 (x51_4 + 1))) = some r := by rw [if_pos rfl] at H; exact H
                                    clear H
                                    have H := H1
                                    clear H1
                                    have H' := Aside0.mk H
                                    clear H
                                    have p133 : 0 ≤ (x51_4 : Int) := of_decide_eq_true (by first | (with_reducible assumption) | assumption)
                                    have q133 : x51_4 < (((rd_T38 l0 x18_2).f3).length : Int) := of_decide_eq_true (by first | (with_reducible assumption) | assumption)
                                    obtain ⟨ad133, A133_6, c133_6, e133, hx133_0, hx133_1, hx133_2, hx133_3, hx133_4, hx133_5, hx133_6, hl133_6, hi133_6⟩ := at_T31 HR129_4.out x51_4 p133 q133
                                    cases e133
                                    replace hx133_0 := (HB.out.cell (World.block_lt_of_cell? w _ hx133_0)).trans hx133_0
                                    replace hx133_1 := (HB.out.cell (World.block_lt_of_cell? w _ hx133_1)).trans hx133_1
                                    replace hx133_2 := (HB.out.cell (World.block_lt_of_cell? w _ hx133_2)).trans hx133_2
                                    replace hx133_3 := (HB.out.cell (World.block_lt_of_cell? w _ hx133_3)).trans hx133_3
                                    replace hx133_4 := (HB.out.cell (World.block_lt_of_cell? w _ hx133_4)).trans hx133_4
                                    replace hx133_5 := (HB.out.cell (World.block_lt_of_cell? w _ hx133_5)).trans hx133_5
                                    replace hx133_6 := (HB.out.cell (World.block_lt_of_cell? w _ hx133_6)).trans hx133_6
                                    have HR133_6 := Aside0.mk hi133_6
                                    have HC133_6 := Aside0.mk hl133_6
                                    clear hi133_6 hl133_6
                                    replace p133 := eq_true p133
                                    replace q133 := eq_true q133
                                    go_wp2_with (first | ((with_reducible refine gate_dst (N := 8) rfl ?_); (try (refine gate_guard (by rfl) ?_; dsimp only)); refine box_event ?hg (N := 8) ?hd (cs := #[.int .i64 0, .int .i64 0, .int .i64 0, .int .i64 0, .string (⟨#[]⟩ : ByteArray), .int .i64 0, .slice none 0 0]) (t := 31) ?hr ?_; (case hd => rfl); (case hg => rfl); (case hr => first | (go_simp; done) | (go_simp; rfl)); intro gb134 hg w32 hbox hb; have n0_ := Aside0.mk (blk_below (g := gb130) (o := .cells #[.int .i64 ((rd_T38 l0 x18_2).f0), .int .i64 ((rd_T38 l0 x18_2).f1.f0), .int .i64 ((rd_T38 l0 x18_2).f1.f1), .string ((rd_T38 l0 x18_2).f2), .slice (some ad133) ((rd_T38 l0 x18_2).f3).length c129_4, .slice A129_5 ((rd_T38 l0 x18_2).f4).length c129_5, .slice A129_6 ((rd_T38 l0 x18_2).f5).length c129_6] 38 (0, 0)) (by (with_reducible repeat (first | refine blk_drewN ?_ _ | refine blk_drew ?_ | refine blk_alloc ?_ _)); exact BK130.out) hb); have n1_ := Aside0.mk (below_step (by repeat (first | (with_reducible first | exact HB.out | apply below_alloc | apply pw_below_drewN | apply below_drew1 | refine below_set ?_ GE130.out) | exact HB.out)) hb); have n2_ := Aside0.mk (hbox); have n3_ := Aside0.mk ((by rw [hg]; exact (below_size (by repeat (first | (with_reducible first | exact HB.out | apply below_alloc | apply pw_below_drewN | apply below_drew1 | refine below_set ?_ GE130.out) | exact HB.out))) : w.heap.size ≤ gb134)); have n4_ := Aside0.mk ((by rw [hg]; exact (below_size (by repeat (first | (with_reducible first | exact HB.out | apply below_alloc | apply pw_below_drewN | apply below_drew1 | refine below_set ?_ GE130.out) | exact HB.out))) : w.heap.size ≤ gb134)); have n5_ := Aside0.mk ((by rw [hg]; exact Nat.ne_of_lt (blk_lt (g := gb130) (o := .cells #[.int .i64 ((rd_T38 l0 x18_2).f0), .int .i64 ((rd_T38 l0 x18_2).f1.f0), .int .i64 ((rd_T38 l0 x18_2).f1.f1), .string ((rd_T38 l0 x18_2).f2), .slice (some ad133) ((rd_T38 l0 x18_2).f3).length c129_4, .slice A129_5 ((rd_T38 l0 x18_2).f4).length c129_5, .slice A129_6 ((rd_T38 l0 x18_2).f5).length c129_6] 38 (0, 0)) (by (with_reducible repeat (first | refine blk_drewN ?_ _ | refine blk_drew ?_ | refine blk_alloc ?_ _)); exact BK130.out)) : gb130 ≠ gb134)); have n6_ := Aside0.mk ((by rw [hg]; exact Nat.ne_of_gt (blk_lt (g := gb130) (o := .cells #[.int .i64 ((rd_T38 l0 x18_2).f0), .int .i64 ((rd_T38 l0 x18_2).f1.f0), .int .i64 ((rd_T38 l0 x18_2).f1.f1), .string ((rd_T38 l0 x18_2).f2), .slice (some ad133) ((rd_T38 l0 x18_2).f3).length c129_4, .slice A129_5 ((rd_T38 l0 x18_2).f4).length c129_5, .slice A129_6 ((rd_T38 l0 x18_2).f5).length c129_6] 38 (0, 0)) (by (with_reducible repeat (first | refine blk_drewN ?_ _ | refine blk_drew ?_ | refine blk_alloc ?_ _)); exact BK130.out)) : gb134 ≠ gb130)); clear BK130; clear HB; have BK130 := n0_; have HB := n1_; have BK134 := n2_; have GW134 := n3_; have GE134 := n4_; have NB130_134 := n5_; have NB134_130 := n6_; clear n0_ n1_ n2_ n3_ n4_ n5_ n6_; clear hb hbox hg; have hnb33 := NB134_130.out; have hnc33 := NB130_134.out; have hcz34_0 : w32.cell? ⟨gb134, 0, none⟩ = some (.int .i64 0) := (blk_cell BK134.out 0).trans rfl; have hcz34_1 : w32.cell? ⟨gb134, 1, none⟩ = some (.int .i64 0) := (blk_cell BK134.out 1).trans rfl; have hcz34_2 : w32.cell? ⟨gb134, 2, none⟩ = some (.int .i64 0) := (blk_cell BK134.out 2).trans rfl; have hcz34_3 : w32.cell? ⟨gb134, 3, none⟩ = some (.int .i64 0) := (blk_cell BK134.out 3).trans rfl; have hcz34_4 : w32.cell? ⟨gb134, 4, none⟩ = some (.string (⟨#[]⟩ : ByteArray)) := (blk_cell BK134.out 4).trans rfl; have hcz34_5 : w32.cell? ⟨gb134, 5, none⟩ = some (.int .i64 0) := (blk_cell BK134.out 5).trans rfl; have hcz34_6 : w32.cell? ⟨gb134, 6, none⟩ = some (.slice none 0 0) := (blk_cell BK134.out 6).trans rfl; have hfz34_0 := blk_frozen BK134.out 0; have hfz34_1 := blk_frozen BK134.out 1; have hfz34_2 := blk_frozen BK134.out 2; have hfz34_3 := blk_frozen BK134.out 3; have hfz34_4 := blk_frozen BK134.out 4; have hfz34_5 := blk_frozen BK134.out 5; have hfz34_6 := blk_frozen BK134.out 6) | ((with_reducible refine gate_callee (f := 9) rfl ?_); refine goesL_ (some 56) rfl rfl Tryd.func9 (by kernel_rfl) rfl #[.agg #[.int .i64 ((rd_T31 ((rd_T38 l0 x18_2).f3) x51_4).f0), .int .i64 ((rd_T31 ((rd_T38 l0 x18_2).f3) x51_4).f1.f0), .int .i64 ((rd_T31 ((rd_T38 l0 x18_2).f3) x51_4).f1.f1), .int .i64 ((rd_T31 ((rd_T38 l0 x18_2).f3) x51_4).f2), .string ((rd_T31 ((rd_T38 l0 x18_2).f3) x51_4).f3), .int .i64 ((rd_T31 ((rd_T38 l0 x18_2).f3) x51_4).f4), .slice A133_6 ((rd_T31 ((rd_T38 l0 x18_2).f3) x51_4).f5).length c133_6], .int .i64 0] rfl (by (try simp only [List.map_toArray, List.map_cons, List.map_nil]); first | done | rfl | (simp only [List.length_drop, List.length_take]; rfl)) ?_; (with_reducible refine (palingslaw03_Few.calls k4 ((rd_T31 ((rd_T38 l0 x18_2).f3) x51_4).f0) ((rd_T31 ((rd_T38 l0 x18_2).f3) x51_4).f1.f0) ((rd_T31 ((rd_T38 l0 x18_2).f3) x51_4).f1.f1) ((rd_T31 ((rd_T38 l0 x18_2).f3) x51_4).f2) ((rd_T31 ((rd_T38 l0 x18_2).f3) x51_4).f3) ((rd_T31 ((rd_T38 l0 x18_2).f3) x51_4).f4) _ _ ((rd_T31 ((rd_T38 l0 x18_2).f3) x51_4).f5) 0 true _ ?side1 ?side2 A30.out).mono ?_); (case side1 => exact Kd.C_below HR133_6.out (by repeat (first | (with_reducible first | exact HB.out | apply below_alloc | apply pw_below_drewN | apply below_drew1 | refine below_set ?_ GE130.out | refine below_set ?_ GE134.out) | exact HB.out))); (case side2 => exact HC133_6.out); rintro e w35 ⟨rfl, hb⟩; refine ⟨_, rfl, ?_⟩; have n0_ := Aside0.mk (blk_below (g := gb130) (o := .cells #[.int .i64 ((rd_T38 l0 x18_2).f0), .int .i64 ((rd_T38 l0 x18_2).f1.f0), .int .i64 ((rd_T38 l0 x18_2).f1.f1), .string ((rd_T38 l0 x18_2).f2), .slice (some ad133) ((rd_T38 l0 x18_2).f3).length c129_4, .slice A129_5 ((rd_T38 l0 x18_2).f4).length c129_5, .slice A129_6 ((rd_T38 l0 x18_2).f5).length c129_6] 38 (0, 0)) (by (with_reducible repeat (first | refine blk_drewN ?_ _ | refine blk_drew ?_ | refine blk_alloc ?_ _)); refine blk_far ?_ NB130_134.out _; (with_reducible repeat (first | refine blk_drewN ?_ _ | refine blk_drew ?_ | refine blk_alloc ?_ _)); refine blk_far ?_ NB130_134.out _; (with_reducible repeat (first | refine blk_drewN ?_ _ | refine blk_drew ?_ | refine blk_alloc ?_ _)); refine blk_far ?_ NB130_134.out _; (with_reducible repeat (first | refine blk_drewN ?_ _ | refine blk_drew ?_ | refine blk_alloc ?_ _)); refine blk_far ?_ NB130_134.out _; (with_reducible repeat (first | refine blk_drewN ?_ _ | refine blk_drew ?_ | refine blk_alloc ?_ _)); refine blk_far ?_ NB130_134.out _; (with_reducible repeat (first | refine blk_drewN ?_ _ | refine blk_drew ?_ | refine blk_alloc ?_ _)); refine blk_far ?_ NB130_134.out _; (with_reducible repeat (first | refine blk_drewN ?_ _ | refine blk_drew ?_ | refine blk_alloc ?_ _)); refine blk_far ?_ NB130_134.out _; (with_reducible repeat (first | refine blk_drewN ?_ _ | refine blk_drew ?_ | refine blk_alloc ?_ _)); exact BK130.out) hb); have n1_ := Aside0.mk (blk_below (g := gb134) (o := .cells #[.int .i64 ((rd_T31 ((rd_T38 l0 x18_2).f3) x51_4).f0), .int .i64 ((rd_T31 ((rd_T38 l0 x18_2).f3) x51_4).f1.f0), .int .i64 ((rd_T31 ((rd_T38 l0 x18_2).f3) x51_4).f1.f1), .int .i64 ((rd_T31 ((rd_T38 l0 x18_2).f3) x51_4).f2), .string ((rd_T31 ((rd_T38 l0 x18_2).f3) x51_4).f3), .int .i64 ((rd_T31 ((rd_T38 l0 x18_2).f3) x51_4).f4), .slice A133_6 ((rd_T31 ((rd_T38 l0 x18_2).f3) x51_4).f5).length c133_6] 31 (0, 0)) (by (with_reducible repeat (first | refine blk_drewN ?_ _ | refine blk_drew ?_ | refine blk_alloc ?_ _)); refine blk_put (cs := #[.int .i64 ((rd_T31 ((rd_T38 l0 x18_2).f3) x51_4).f0), .int .i64 ((rd_T31 ((rd_T38 l0 x18_2).f3) x51_4).f1.f0), .int .i64 ((rd_T31 ((rd_T38 l0 x18_2).f3) x51_4).f1.f1), .int .i64 ((rd_T31 ((rd_T38 l0 x18_2).f3) x51_4).f2), .string ((rd_T31 ((rd_T38 l0 x18_2).f3) x51_4).f3), .int .i64 ((rd_T31 ((rd_T38 l0 x18_2).f3) x51_4).f4), .slice none 0 0]) ?_ 6 _ rfl; (with_reducible repeat (first | refine blk_drewN ?_ _ | refine blk_drew ?_ | refine blk_alloc ?_ _)); refine blk_put (cs := #[.int .i64 ((rd_T31 ((rd_T38 l0 x18_2).f3) x51_4).f0), .int .i64 ((rd_T31 ((rd_T38 l0 x18_2).f3) x51_4).f1.f0), .int .i64 ((rd_T31 ((rd_T38 l0 x18_2).f3) x51_4).f1.f1), .int .i64 ((rd_T31 ((rd_T38 l0 x18_2).f3) x51_4).f2), .string ((rd_T31 ((rd_T38 l0 x18_2).f3) x51_4).f3), .int .i64 0, .slice none 0 0]) ?_ 5 _ rfl; (with_reducible repeat (first | refine blk_drewN ?_ _ | refine blk_drew ?_ | refine blk_alloc ?_ _)); refine blk_put (cs := #[.int .i64 ((rd_T31 ((rd_T38 l0 x18_2).f3) x51_4).f0), .int .i64 ((rd_T31 ((rd_T38 l0 x18_2).f3) x51_4).f1.f0), .int .i64 ((rd_T31 ((rd_T38 l0 x18_2).f3) x51_4).f1.f1), .int .i64 ((rd_T31 ((rd_T38 l0 x18_2).f3) x51_4).f2), .string (⟨#[]⟩ : ByteArray), .int .i64 0, .slice none 0 0]) ?_ 4 _ rfl; (with_reducible repeat (first | refine blk_drewN ?_ _ | refine blk_drew ?_ | refine blk_alloc ?_ _)); refine blk_put (cs := #[.int .i64 ((rd_T31 ((rd_T38 l0 x18_2).f3) x51_4).f0), .int .i64 ((rd_T31 ((rd_T38 l0 x18_2).f3) x51_4).f1.f0), .int .i64 ((rd_T31 ((rd_T38 l0 x18_2).f3) x51_4).f1.f1), .int .i64 0, .string (⟨#[]⟩ : ByteArray), .int .i64 0, .slice none 0 0]) ?_ 3 _ rfl; (with_reducible repeat (first | refine blk_drewN ?_ _ | refine blk_drew ?_ | refine blk_alloc ?_ _)); refine blk_put (cs := #[.int .i64 ((rd_T31 ((rd_T38 l0 x18_2).f3) x51_4).f0), .int .i64 ((rd_T31 ((rd_T38 l0 x18_2).f3) x51_4).f1.f0), .int .i64 0, .int .i64 0, .string (⟨#[]⟩ : ByteArray), .int .i64 0, .slice none 0 0]) ?_ 2 _ rfl; (with_reducible repeat (first | refine blk_drewN ?_ _ | refine blk_drew ?_ | refine blk_alloc ?_ _)); refine blk_put (cs := #[.int .i64 ((rd_T31 ((rd_T38 l0 x18_2).f3) x51_4).f0), .int .i64 0, .int .i64 0, .int .i64 0, .string (⟨#[]⟩ : ByteArray), .int .i64 0, .slice none 0 0]) ?_ 1 _ rfl; (with_reducible repeat (first | refine blk_drewN ?_ _ | refine blk_drew ?_ | refine blk_alloc ?_ _)); refine blk_put (cs := #[.int .i64 0, .int .i64 0, .int .i64 0, .int .i64 0, .string (⟨#[]⟩ : ByteArray), .int .i64 0, .slice none 0 0]) ?_ 0 _ rfl; (with_reducible repeat (first | refine blk_drewN ?_ _ | refine blk_drew ?_ | refine blk_alloc ?_ _)); exact BK134.out) hb); have n2_ := Aside0.mk (below_step (by repeat (first | (with_reducible first | exact HB.out | apply below_alloc | apply pw_below_drewN | apply below_drew1 | refine below_set ?_ GE130.out | refine below_set ?_ GE134.out) | exact HB.out)) hb); clear BK130; clear BK134; clear HB; have BK130 := n0_; have BK134 := n1_; have HB := n2_; clear n0_ n1_ n2_; (try clear hb); (try clear hb2); (try clear hk); (try clear hi)))
                                    go_roundg k4
                                    case measure => have := HJ2.out; have := HK2.out; have := HJ8.out; have := HK4.out; omega
                                    case rel => exact ⟨(wrap64 (x51_4 + 1)), (by first | rfl | (simp; done) | (simp [*]; done)), H', ⟨by have := HJ2.out; have := HK2.out; have := HJ8.out; have := HK4.out; omega⟩, ⟨by (with_reducible repeat (first | refine blk_drewN ?_ _ | refine blk_drew ?_ | refine blk_alloc ?_ _)); exact BK130.out⟩, ⟨by repeat (first | (with_reducible first | exact HB.out | apply below_alloc | apply pw_below_drewN | apply below_drew1 | refine below_set ?_ GE130.out | refine below_set ?_ GE134.out) | exact HB.out)⟩⟩
                                  · replace c31 := Bool.eq_false_iff.mpr c31
                                    subst c31
                                    have H1 : (some false) = some r := by rw [if_neg (show ¬ (false = true) by decide)] at H; exact H
                                    clear H
                                    have H := H1
                                    clear H1
                                    obtain rfl := Option.some.inj H
                                    have p133 : 0 ≤ (x51_4 : Int) := of_decide_eq_true (by first | (with_reducible assumption) | assumption)
                                    have q133 : x51_4 < (((rd_T38 l0 x18_2).f3).length : Int) := of_decide_eq_true (by first | (with_reducible assumption) | assumption)
                                    obtain ⟨ad133, A133_6, c133_6, e133, hx133_0, hx133_1, hx133_2, hx133_3, hx133_4, hx133_5, hx133_6, hl133_6, hi133_6⟩ := at_T31 HR129_4.out x51_4 p133 q133
                                    cases e133
                                    replace hx133_0 := (HB.out.cell (World.block_lt_of_cell? w _ hx133_0)).trans hx133_0
                                    replace hx133_1 := (HB.out.cell (World.block_lt_of_cell? w _ hx133_1)).trans hx133_1
                                    replace hx133_2 := (HB.out.cell (World.block_lt_of_cell? w _ hx133_2)).trans hx133_2
                                    replace hx133_3 := (HB.out.cell (World.block_lt_of_cell? w _ hx133_3)).trans hx133_3
                                    replace hx133_4 := (HB.out.cell (World.block_lt_of_cell? w _ hx133_4)).trans hx133_4
                                    replace hx133_5 := (HB.out.cell (World.block_lt_of_cell? w _ hx133_5)).trans hx133_5
                                    replace hx133_6 := (HB.out.cell (World.block_lt_of_cell? w _ hx133_6)).trans hx133_6
                                    have HR133_6 := Aside0.mk hi133_6
                                    have HC133_6 := Aside0.mk hl133_6
                                    clear hi133_6 hl133_6
                                    replace p133 := eq_true p133
                                    replace q133 := eq_true q133
                                    go_wp2_with (first | ((with_reducible refine gate_dst (N := 8) rfl ?_); (try (refine gate_guard (by rfl) ?_; dsimp only)); refine box_event ?hg (N := 8) ?hd (cs := #[.int .i64 0, .int .i64 0, .int .i64 0, .int .i64 0, .string (⟨#[]⟩ : ByteArray), .int .i64 0, .slice none 0 0]) (t := 31) ?hr ?_; (case hd => rfl); (case hg => rfl); (case hr => first | (go_simp; done) | (go_simp; rfl)); intro gb134 hg w36 hbox hb; have n0_ := Aside0.mk (blk_below (g := gb130) (o := .cells #[.int .i64 ((rd_T38 l0 x18_2).f0), .int .i64 ((rd_T38 l0 x18_2).f1.f0), .int .i64 ((rd_T38 l0 x18_2).f1.f1), .string ((rd_T38 l0 x18_2).f2), .slice (some ad133) ((rd_T38 l0 x18_2).f3).length c129_4, .slice A129_5 ((rd_T38 l0 x18_2).f4).length c129_5, .slice A129_6 ((rd_T38 l0 x18_2).f5).length c129_6] 38 (0, 0)) (by (with_reducible repeat (first | refine blk_drewN ?_ _ | refine blk_drew ?_ | refine blk_alloc ?_ _)); exact BK130.out) hb); have n1_ := Aside0.mk (below_step (by repeat (first | (with_reducible first | exact HB.out | apply below_alloc | apply pw_below_drewN | apply below_drew1 | refine below_set ?_ GE130.out) | exact HB.out)) hb); have n2_ := Aside0.mk (hbox); have n3_ := Aside0.mk ((by rw [hg]; exact (below_size (by repeat (first | (with_reducible first | exact HB.out | apply below_alloc | apply pw_below_drewN | apply below_drew1 | refine below_set ?_ GE130.out) | exact HB.out))) : w.heap.size ≤ gb134)); have n4_ := Aside0.mk ((by rw [hg]; exact (below_size (by repeat (first | (with_reducible first | exact HB.out | apply below_alloc | apply pw_below_drewN | apply below_drew1 | refine below_set ?_ GE130.out) | exact HB.out))) : w.heap.size ≤ gb134)); have n5_ := Aside0.mk ((by rw [hg]; exact Nat.ne_of_lt (blk_lt (g := gb130) (o := .cells #[.int .i64 ((rd_T38 l0 x18_2).f0), .int .i64 ((rd_T38 l0 x18_2).f1.f0), .int .i64 ((rd_T38 l0 x18_2).f1.f1), .string ((rd_T38 l0 x18_2).f2), .slice (some ad133) ((rd_T38 l0 x18_2).f3).length c129_4, .slice A129_5 ((rd_T38 l0 x18_2).f4).length c129_5, .slice A129_6 ((rd_T38 l0 x18_2).f5).length c129_6] 38 (0, 0)) (by (with_reducible repeat (first | refine blk_drewN ?_ _ | refine blk_drew ?_ | refine blk_alloc ?_ _)); exact BK130.out)) : gb130 ≠ gb134)); have n6_ := Aside0.mk ((by rw [hg]; exact Nat.ne_of_gt (blk_lt (g := gb130) (o := .cells #[.int .i64 ((rd_T38 l0 x18_2).f0), .int .i64 ((rd_T38 l0 x18_2).f1.f0), .int .i64 ((rd_T38 l0 x18_2).f1.f1), .string ((rd_T38 l0 x18_2).f2), .slice (some ad133) ((rd_T38 l0 x18_2).f3).length c129_4, .slice A129_5 ((rd_T38 l0 x18_2).f4).length c129_5, .slice A129_6 ((rd_T38 l0 x18_2).f5).length c129_6] 38 (0, 0)) (by (with_reducible repeat (first | refine blk_drewN ?_ _ | refine blk_drew ?_ | refine blk_alloc ?_ _)); exact BK130.out)) : gb134 ≠ gb130)); clear BK130; clear HB; have BK130 := n0_; have HB := n1_; have BK134 := n2_; have GW134 := n3_; have GE134 := n4_; have NB130_134 := n5_; have NB134_130 := n6_; clear n0_ n1_ n2_ n3_ n4_ n5_ n6_; clear hb hbox hg; have hnb37 := NB134_130.out; have hnc37 := NB130_134.out; have hcz38_0 : w36.cell? ⟨gb134, 0, none⟩ = some (.int .i64 0) := (blk_cell BK134.out 0).trans rfl; have hcz38_1 : w36.cell? ⟨gb134, 1, none⟩ = some (.int .i64 0) := (blk_cell BK134.out 1).trans rfl; have hcz38_2 : w36.cell? ⟨gb134, 2, none⟩ = some (.int .i64 0) := (blk_cell BK134.out 2).trans rfl; have hcz38_3 : w36.cell? ⟨gb134, 3, none⟩ = some (.int .i64 0) := (blk_cell BK134.out 3).trans rfl; have hcz38_4 : w36.cell? ⟨gb134, 4, none⟩ = some (.string (⟨#[]⟩ : ByteArray)) := (blk_cell BK134.out 4).trans rfl; have hcz38_5 : w36.cell? ⟨gb134, 5, none⟩ = some (.int .i64 0) := (blk_cell BK134.out 5).trans rfl; have hcz38_6 : w36.cell? ⟨gb134, 6, none⟩ = some (.slice none 0 0) := (blk_cell BK134.out 6).trans rfl; have hfz38_0 := blk_frozen BK134.out 0; have hfz38_1 := blk_frozen BK134.out 1; have hfz38_2 := blk_frozen BK134.out 2; have hfz38_3 := blk_frozen BK134.out 3; have hfz38_4 := blk_frozen BK134.out 4; have hfz38_5 := blk_frozen BK134.out 5; have hfz38_6 := blk_frozen BK134.out 6) | ((with_reducible refine gate_callee (f := 9) rfl ?_); refine goesL_ (some 56) rfl rfl Tryd.func9 (by kernel_rfl) rfl #[.agg #[.int .i64 ((rd_T31 ((rd_T38 l0 x18_2).f3) x51_4).f0), .int .i64 ((rd_T31 ((rd_T38 l0 x18_2).f3) x51_4).f1.f0), .int .i64 ((rd_T31 ((rd_T38 l0 x18_2).f3) x51_4).f1.f1), .int .i64 ((rd_T31 ((rd_T38 l0 x18_2).f3) x51_4).f2), .string ((rd_T31 ((rd_T38 l0 x18_2).f3) x51_4).f3), .int .i64 ((rd_T31 ((rd_T38 l0 x18_2).f3) x51_4).f4), .slice A133_6 ((rd_T31 ((rd_T38 l0 x18_2).f3) x51_4).f5).length c133_6], .int .i64 0] rfl (by (try simp only [List.map_toArray, List.map_cons, List.map_nil]); first | done | rfl | (simp only [List.length_drop, List.length_take]; rfl)) ?_; (with_reducible refine (palingslaw03_Few.calls k4 ((rd_T31 ((rd_T38 l0 x18_2).f3) x51_4).f0) ((rd_T31 ((rd_T38 l0 x18_2).f3) x51_4).f1.f0) ((rd_T31 ((rd_T38 l0 x18_2).f3) x51_4).f1.f1) ((rd_T31 ((rd_T38 l0 x18_2).f3) x51_4).f2) ((rd_T31 ((rd_T38 l0 x18_2).f3) x51_4).f3) ((rd_T31 ((rd_T38 l0 x18_2).f3) x51_4).f4) _ _ ((rd_T31 ((rd_T38 l0 x18_2).f3) x51_4).f5) 0 false _ ?side1 ?side2 A30.out).mono ?_); (case side1 => exact Kd.C_below HR133_6.out (by repeat (first | (with_reducible first | exact HB.out | apply below_alloc | apply pw_below_drewN | apply below_drew1 | refine below_set ?_ GE130.out | refine below_set ?_ GE134.out) | exact HB.out))); (case side2 => exact HC133_6.out); rintro e w39 ⟨rfl, hb⟩; refine ⟨_, rfl, ?_⟩; have n0_ := Aside0.mk (blk_below (g := gb130) (o := .cells #[.int .i64 ((rd_T38 l0 x18_2).f0), .int .i64 ((rd_T38 l0 x18_2).f1.f0), .int .i64 ((rd_T38 l0 x18_2).f1.f1), .string ((rd_T38 l0 x18_2).f2), .slice (some ad133) ((rd_T38 l0 x18_2).f3).length c129_4, .slice A129_5 ((rd_T38 l0 x18_2).f4).length c129_5, .slice A129_6 ((rd_T38 l0 x18_2).f5).length c129_6] 38 (0, 0)) (by (with_reducible repeat (first | refine blk_drewN ?_ _ | refine blk_drew ?_ | refine blk_alloc ?_ _)); refine blk_far ?_ NB130_134.out _; (with_reducible repeat (first | refine blk_drewN ?_ _ | refine blk_drew ?_ | refine blk_alloc ?_ _)); refine blk_far ?_ NB130_134.out _; (with_reducible repeat (first | refine blk_drewN ?_ _ | refine blk_drew ?_ | refine blk_alloc ?_ _)); refine blk_far ?_ NB130_134.out _; (with_reducible repeat (first | refine blk_drewN ?_ _ | refine blk_drew ?_ | refine blk_alloc ?_ _)); refine blk_far ?_ NB130_134.out _; (with_reducible repeat (first | refine blk_drewN ?_ _ | refine blk_drew ?_ | refine blk_alloc ?_ _)); refine blk_far ?_ NB130_134.out _; (with_reducible repeat (first | refine blk_drewN ?_ _ | refine blk_drew ?_ | refine blk_alloc ?_ _)); refine blk_far ?_ NB130_134.out _; (with_reducible repeat (first | refine blk_drewN ?_ _ | refine blk_drew ?_ | refine blk_alloc ?_ _)); refine blk_far ?_ NB130_134.out _; (with_reducible repeat (first | refine blk_drewN ?_ _ | refine blk_drew ?_ | refine blk_alloc ?_ _)); exact BK130.out) hb); have n1_ := Aside0.mk (blk_below (g := gb134) (o := .cells #[.int .i64 ((rd_T31 ((rd_T38 l0 x18_2).f3) x51_4).f0), .int .i64 ((rd_T31 ((rd_T38 l0 x18_2).f3) x51_4).f1.f0), .int .i64 ((rd_T31 ((rd_T38 l0 x18_2).f3) x51_4).f1.f1), .int .i64 ((rd_T31 ((rd_T38 l0 x18_2).f3) x51_4).f2), .string ((rd_T31 ((rd_T38 l0 x18_2).f3) x51_4).f3), .int .i64 ((rd_T31 ((rd_T38 l0 x18_2).f3) x51_4).f4), .slice A133_6 ((rd_T31 ((rd_T38 l0 x18_2).f3) x51_4).f5).length c133_6] 31 (0, 0)) (by (with_reducible repeat (first | refine blk_drewN ?_ _ | refine blk_drew ?_ | refine blk_alloc ?_ _)); refine blk_put (cs := #[.int .i64 ((rd_T31 ((rd_T38 l0 x18_2).f3) x51_4).f0), .int .i64 ((rd_T31 ((rd_T38 l0 x18_2).f3) x51_4).f1.f0), .int .i64 ((rd_T31 ((rd_T38 l0 x18_2).f3) x51_4).f1.f1), .int .i64 ((rd_T31 ((rd_T38 l0 x18_2).f3) x51_4).f2), .string ((rd_T31 ((rd_T38 l0 x18_2).f3) x51_4).f3), .int .i64 ((rd_T31 ((rd_T38 l0 x18_2).f3) x51_4).f4), .slice none 0 0]) ?_ 6 _ rfl; (with_reducible repeat (first | refine blk_drewN ?_ _ | refine blk_drew ?_ | refine blk_alloc ?_ _)); refine blk_put (cs := #[.int .i64 ((rd_T31 ((rd_T38 l0 x18_2).f3) x51_4).f0), .int .i64 ((rd_T31 ((rd_T38 l0 x18_2).f3) x51_4).f1.f0), .int .i64 ((rd_T31 ((rd_T38 l0 x18_2).f3) x51_4).f1.f1), .int .i64 ((rd_T31 ((rd_T38 l0 x18_2).f3) x51_4).f2), .string ((rd_T31 ((rd_T38 l0 x18_2).f3) x51_4).f3), .int .i64 0, .slice none 0 0]) ?_ 5 _ rfl; (with_reducible repeat (first | refine blk_drewN ?_ _ | refine blk_drew ?_ | refine blk_alloc ?_ _)); refine blk_put (cs := #[.int .i64 ((rd_T31 ((rd_T38 l0 x18_2).f3) x51_4).f0), .int .i64 ((rd_T31 ((rd_T38 l0 x18_2).f3) x51_4).f1.f0), .int .i64 ((rd_T31 ((rd_T38 l0 x18_2).f3) x51_4).f1.f1), .int .i64 ((rd_T31 ((rd_T38 l0 x18_2).f3) x51_4).f2), .string (⟨#[]⟩ : ByteArray), .int .i64 0, .slice none 0 0]) ?_ 4 _ rfl; (with_reducible repeat (first | refine blk_drewN ?_ _ | refine blk_drew ?_ | refine blk_alloc ?_ _)); refine blk_put (cs := #[.int .i64 ((rd_T31 ((rd_T38 l0 x18_2).f3) x51_4).f0), .int .i64 ((rd_T31 ((rd_T38 l0 x18_2).f3) x51_4).f1.f0), .int .i64 ((rd_T31 ((rd_T38 l0 x18_2).f3) x51_4).f1.f1), .int .i64 0, .string (⟨#[]⟩ : ByteArray), .int .i64 0, .slice none 0 0]) ?_ 3 _ rfl; (with_reducible repeat (first | refine blk_drewN ?_ _ | refine blk_drew ?_ | refine blk_alloc ?_ _)); refine blk_put (cs := #[.int .i64 ((rd_T31 ((rd_T38 l0 x18_2).f3) x51_4).f0), .int .i64 ((rd_T31 ((rd_T38 l0 x18_2).f3) x51_4).f1.f0), .int .i64 0, .int .i64 0, .string (⟨#[]⟩ : ByteArray), .int .i64 0, .slice none 0 0]) ?_ 2 _ rfl; (with_reducible repeat (first | refine blk_drewN ?_ _ | refine blk_drew ?_ | refine blk_alloc ?_ _)); refine blk_put (cs := #[.int .i64 ((rd_T31 ((rd_T38 l0 x18_2).f3) x51_4).f0), .int .i64 0, .int .i64 0, .int .i64 0, .string (⟨#[]⟩ : ByteArray), .int .i64 0, .slice none 0 0]) ?_ 1 _ rfl; (with_reducible repeat (first | refine blk_drewN ?_ _ | refine blk_drew ?_ | refine blk_alloc ?_ _)); refine blk_put (cs := #[.int .i64 0, .int .i64 0, .int .i64 0, .int .i64 0, .string (⟨#[]⟩ : ByteArray), .int .i64 0, .slice none 0 0]) ?_ 0 _ rfl; (with_reducible repeat (first | refine blk_drewN ?_ _ | refine blk_drew ?_ | refine blk_alloc ?_ _)); exact BK134.out) hb); have n2_ := Aside0.mk (below_step (by repeat (first | (with_reducible first | exact HB.out | apply below_alloc | apply pw_below_drewN | apply below_drew1 | refine below_set ?_ GE130.out | refine below_set ?_ GE134.out) | exact HB.out)) hb); clear BK130; clear BK134; clear HB; have BK130 := n0_; have BK134 := n1_; have HB := n2_; clear n0_ n1_ n2_; (try clear hb); (try clear hb2); (try clear hk); (try clear hi)))
                                    go_ret
                                    exact ⟨by first | rfl | (simp [errW_none, errW_some] <;> rfl) | (simp [*, errW_none, errW_some] <;> rfl), by repeat (first | (with_reducible first | exact HB.out | apply below_alloc | apply pw_below_drewN | apply below_drew1 | refine below_set ?_ GE130.out | refine below_set ?_ GE134.out) | exact HB.out)⟩
                                · rw [if_neg c29] at H
                                  exact absurd H (by simp)
                              · rw [if_neg c28] at H
                                exact absurd H (by simp)
                            · rw [if_neg c27] at H
                              have c27b0 : decide (x51_4 < (((rd_T38 l0 x18_2).f3).length : Int)) = false := decide_eq_false c27
                              clear c27
                              have H' := Aside0.mk H
                              clear H
                              go_wp2
                              go_roundg k4
                              case measure => have := HJ2.out; have := HK2.out; have := HJ8.out; have := HK4.out; omega
                              case rel => exact ⟨(wrap64 (x18_2 + 1)), (by first | rfl | (simp; done) | (simp [*]; done)), H', ⟨by have := HJ2.out; have := HK2.out; have := HJ8.out; have := HK4.out; omega⟩, ⟨by repeat (first | (with_reducible first | exact HB.out | apply below_alloc | apply pw_below_drewN | apply below_drew1 | refine below_set ?_ GE130.out) | exact HB.out)⟩⟩
                · rw [if_neg c8] at H
                  exact absurd H (by simp)
              · rw [if_neg c7] at H
                exact absurd H (by simp)
            · rw [if_neg c6] at H
              have c6b0 : decide (x18_2 < (l0.length : Int)) = false := decide_eq_false c6
              clear c6
              obtain rfl := Option.some.inj H
              go_wp2
              go_ret
              exact ⟨by first | rfl | (simp [errW_none, errW_some] <;> rfl) | (simp [*, errW_none, errW_some] <;> rfl), by repeat (first | (with_reducible first | exact HB.out | apply below_alloc | apply pw_below_drewN | apply below_drew1) | exact HB.out)⟩


end Go.Proofs.YtaammdmaldodaaaDoor.B
