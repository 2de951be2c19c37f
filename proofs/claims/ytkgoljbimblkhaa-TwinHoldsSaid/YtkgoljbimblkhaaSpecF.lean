/- The machine that runs ahead: a deed where something is guessed, at the end of it. -/
import Derived.Test.YtkgoljbimblkhaaSpecW
namespace Go.Proofs.Ytkgoljbimblkhaa.B
open Go.RowKit Go.Proofs.Ytkgoljbimblkhaa.Mine Go.Proofs.Ytkgoljbimblkhaa.Sep Go.Proofs.YtkgoljbimblkhaaW.PrintWords Go.Proofs.YtkgoljbimblkhaaW.PrintLast Go.Proofs.YtkgoljbimblkhaaW.PrintMore
set_option linter.unusedVariables false
set_option linter.unusedSimpArgs false
section
variable {g : Nat} {A : Option Addr} {n c : Nat} {win : Int} {W0 w : World} {L : List Chunk} {Ac At : Option Addr} {cc ct : Nat} {code : List S56} {sites : List Int}

set_option maxRecDepth 100000 in
set_option maxHeartbeats 2000000 in
theorem do_G1_low {X : SM} {deed tq : Int} (hC : ∀ w, Sat W0 w L → Kd.C k56 w Ac code.length code) (hT : ∀ w, Sat W0 w L → Kd.C (Kd.int .i64) w At sites.length sites) (hfit : ∀ i ∈ code, Fit i) (hnt : sites.length ≤ 1000000) (hn : X.n ≤ 700000) (hb : X.buf.length ≤ 700000) (he : X.s.ended = true) (hg : X.saved.isSome = true) {Y : SM} (hY : Aside0 (Y = { X with left := wrap64 (X.left - 1) })) (hd3 : ¬ deed = 3) (hl : ¬ X.left = 0) (hp : Y.s.pc < 0) (HS : Sat W0 w (mch g A n c (.slice Ac code.length cc) (.slice At sites.length ct) win X :: L)) :
    Calls Try.prog 22 #[.pointer (some ⟨g, 0, none⟩), .agg #[.int .i64 deed, .int .i64 tq]] w fun e w' => ∃ v, e = .returned v ∧ Sat W0 w' (row k66 66 v (honestF code Y).2 :: mch g A n c (.slice Ac code.length cc) (.slice At sites.length ct) win (honestF code Y).1 :: L) := by
  have hgY : Y.saved.isSome = true := by rw [hY.out]; exact hg
  have hYn : Y.n ≤ 700000 := by rw [hY.out]; exact hn
  have hYb : Y.buf.length ≤ 700000 := by rw [hY.out]; exact hb
  have d3 : (deed == 3) = false := beq_eq_false_iff_ne.mpr hd3
  have l0 : (X.left == 0) = false := beq_eq_false_iff_ne.mpr hl
  go_enter Try.func22, Try.ntmps22
  go_upto_region 1 with ((with_reducible refine gate_dst (N := 3) rfl ?_); go_must (refine ev_box HS rfl (N := 3) rfl (cs := #[.int .i64 deed, .int .i64 tq]) (t := 72) ?hrun ?_); (case hrun => first | (go_simp; done) | (go_simp; rfl)); clear HS; intro gd w HS)
  replace HS := HS.swap
  have HM := mchC HS 0 rfl
  have c65 := (HM.2.1 65 (by decide)).trans (stL_ended HM.1)
  have c64 := (HM.2.1 64 (by decide)).trans (stL_pc HM.1)
  have c69 := HM.2.2.2.1
  have c75 := HM.2.2.2.2.2.2.2
  have fs := HM.2.2.1
  clear HM
  have cd := HS.cell 1 rfl
  rw [he] at c65
  have HG := Aside0.mk (guesses_calls (show X.n ≤ 1000000 by omega) HS)
  rw [hg] at HG
  go_upto_region 3 with ((try (refine gate_guard (by rfl) ?_; dsimp only)); go_at_call 28; refine HG.out.mono ?_; rintro e w_ ⟨rfl, HS_⟩; clear HS HG; have HS := HS_; clear HS_)
  clear c65 c64 c69 c75 fs cd
  have HM := mchC HS 0 rfl
  have c65 := (HM.2.1 65 (by decide)).trans (stL_ended HM.1)
  have c64 := (HM.2.1 64 (by decide)).trans (stL_pc HM.1)
  have c69 := HM.2.2.2.1
  have c75 := HM.2.2.2.2.2.2.2
  have fs := HM.2.2.1
  clear HM
  have cd := HS.cell 1 rfl
  have HG := Aside0.mk (guesses_calls (show X.n ≤ 1000000 by omega) HS)
  rw [hg] at HG
  go_upto_region 4 with (go_at_call 28; refine HG.out.mono ?_; rintro e w_ ⟨rfl, HS_⟩; clear HS HG; have HS := HS_; clear HS_)
  clear c65 c64 c69 c75 fs cd
  have HM := mchC HS 0 rfl
  have c65 := (HM.2.1 65 (by decide)).trans (stL_ended HM.1)
  have c64 := (HM.2.1 64 (by decide)).trans (stL_pc HM.1)
  have c69 := HM.2.2.2.1
  have c75 := HM.2.2.2.2.2.2.2
  have fs := HM.2.2.1
  clear HM
  have cd := HS.cell 1 rfl
  go_upto_region 7 with (fail)
  refine wp_sat (mchLeft HS (wrap64 (X.left - 1))) (fun w HS => ?_)
  clear c65 c64 c69 c75 fs cd
  have HS_ := HS
  clear HS
  have HS : Sat W0 w (mch g A n c (.slice Ac code.length cc) (.slice At sites.length ct) win Y :: blk gd 72 #[.int .i64 deed, .int .i64 tq] :: L) := by rw [hY.out]; exact HS_
  clear HS_
  have HM := mchC HS 0 rfl
  have c65 := (HM.2.1 65 (by decide)).trans (stL_ended HM.1)
  have c64 := (HM.2.1 64 (by decide)).trans (stL_pc HM.1)
  have c69 := HM.2.2.2.1
  have c75 := HM.2.2.2.2.2.2.2
  have fs := HM.2.2.1
  clear HM
  have cd := HS.cell 1 rfl
  have hpb : decide (Y.s.pc < 0) = true := decide_eq_true hp
  go_quiet (fail)
  have HQ := HS
  clear HS
  have HS := HQ
  clear HQ
  (first | refine then_drawnN HS (fun w HS => ?_) | refine wp_drawnN HS (fun w HS => ?_))
  clear c65 c64 c69 c75 fs cd
  go_wp2_with (go_at_call 30; refine (honest_calls (fun w h => hC w h.tail) hfit (show Y.n ≤ 900000 by omega) (show Y.buf.length ≤ 900000 by omega) HS).mono ?_; rintro e w_ ⟨v, rfl, HS_⟩; clear HS; have HS := HS_; clear HS_)
  go_ret
  exact ⟨_, rfl, HS.erase 2⟩

set_option maxRecDepth 100000 in
set_option maxHeartbeats 2000000 in
theorem do_G1_high {X : SM} {deed tq : Int} (hC : ∀ w, Sat W0 w L → Kd.C k56 w Ac code.length code) (hT : ∀ w, Sat W0 w L → Kd.C (Kd.int .i64) w At sites.length sites) (hfit : ∀ i ∈ code, Fit i) (hnt : sites.length ≤ 1000000) (hn : X.n ≤ 700000) (hb : X.buf.length ≤ 700000) (he : X.s.ended = true) (hg : X.saved.isSome = true) {Y : SM} (hY : Aside0 (Y = { X with left := wrap64 (X.left - 1) })) (hd3 : ¬ deed = 3) (hl : ¬ X.left = 0) (hp0 : ¬ Y.s.pc < 0) (hp : (code.length : Int) ≤ Y.s.pc) (HS : Sat W0 w (mch g A n c (.slice Ac code.length cc) (.slice At sites.length ct) win X :: L)) :
    Calls Try.prog 22 #[.pointer (some ⟨g, 0, none⟩), .agg #[.int .i64 deed, .int .i64 tq]] w fun e w' => ∃ v, e = .returned v ∧ Sat W0 w' (row k66 66 v (honestF code Y).2 :: mch g A n c (.slice Ac code.length cc) (.slice At sites.length ct) win (honestF code Y).1 :: L) := by
  have hgY : Y.saved.isSome = true := by rw [hY.out]; exact hg
  have hYn : Y.n ≤ 700000 := by rw [hY.out]; exact hn
  have hYb : Y.buf.length ≤ 700000 := by rw [hY.out]; exact hb
  have d3 : (deed == 3) = false := beq_eq_false_iff_ne.mpr hd3
  have l0 : (X.left == 0) = false := beq_eq_false_iff_ne.mpr hl
  go_enter Try.func22, Try.ntmps22
  go_upto_region 1 with ((with_reducible refine gate_dst (N := 3) rfl ?_); go_must (refine ev_box HS rfl (N := 3) rfl (cs := #[.int .i64 deed, .int .i64 tq]) (t := 72) ?hrun ?_); (case hrun => first | (go_simp; done) | (go_simp; rfl)); clear HS; intro gd w HS)
  replace HS := HS.swap
  have HM := mchC HS 0 rfl
  have c65 := (HM.2.1 65 (by decide)).trans (stL_ended HM.1)
  have c64 := (HM.2.1 64 (by decide)).trans (stL_pc HM.1)
  have c69 := HM.2.2.2.1
  have c75 := HM.2.2.2.2.2.2.2
  have fs := HM.2.2.1
  clear HM
  have cd := HS.cell 1 rfl
  rw [he] at c65
  have HG := Aside0.mk (guesses_calls (show X.n ≤ 1000000 by omega) HS)
  rw [hg] at HG
  go_upto_region 3 with ((try (refine gate_guard (by rfl) ?_; dsimp only)); go_at_call 28; refine HG.out.mono ?_; rintro e w_ ⟨rfl, HS_⟩; clear HS HG; have HS := HS_; clear HS_)
  clear c65 c64 c69 c75 fs cd
  have HM := mchC HS 0 rfl
  have c65 := (HM.2.1 65 (by decide)).trans (stL_ended HM.1)
  have c64 := (HM.2.1 64 (by decide)).trans (stL_pc HM.1)
  have c69 := HM.2.2.2.1
  have c75 := HM.2.2.2.2.2.2.2
  have fs := HM.2.2.1
  clear HM
  have cd := HS.cell 1 rfl
  have HG := Aside0.mk (guesses_calls (show X.n ≤ 1000000 by omega) HS)
  rw [hg] at HG
  go_upto_region 4 with (go_at_call 28; refine HG.out.mono ?_; rintro e w_ ⟨rfl, HS_⟩; clear HS HG; have HS := HS_; clear HS_)
  clear c65 c64 c69 c75 fs cd
  have HM := mchC HS 0 rfl
  have c65 := (HM.2.1 65 (by decide)).trans (stL_ended HM.1)
  have c64 := (HM.2.1 64 (by decide)).trans (stL_pc HM.1)
  have c69 := HM.2.2.2.1
  have c75 := HM.2.2.2.2.2.2.2
  have fs := HM.2.2.1
  clear HM
  have cd := HS.cell 1 rfl
  go_upto_region 7 with (fail)
  refine wp_sat (mchLeft HS (wrap64 (X.left - 1))) (fun w HS => ?_)
  clear c65 c64 c69 c75 fs cd
  have HS_ := HS
  clear HS
  have HS : Sat W0 w (mch g A n c (.slice Ac code.length cc) (.slice At sites.length ct) win Y :: blk gd 72 #[.int .i64 deed, .int .i64 tq] :: L) := by rw [hY.out]; exact HS_
  clear HS_
  have HM := mchC HS 0 rfl
  have c65 := (HM.2.1 65 (by decide)).trans (stL_ended HM.1)
  have c64 := (HM.2.1 64 (by decide)).trans (stL_pc HM.1)
  have c69 := HM.2.2.2.1
  have c75 := HM.2.2.2.2.2.2.2
  have fs := HM.2.2.1
  clear HM
  have cd := HS.cell 1 rfl
  have hpa : decide (Y.s.pc < 0) = false := decide_eq_false (by omega)
  have hpb : decide ((code.length : Int) ≤ Y.s.pc) = true := decide_eq_true hp
  go_quiet (fail)
  have HQ := HS
  clear HS
  have HS := HQ
  clear HQ
  (first | refine then_drawnN HS (fun w HS => ?_) | refine wp_drawnN HS (fun w HS => ?_))
  clear c65 c64 c69 c75 fs cd
  go_wp2_with (go_at_call 30; refine (honest_calls (fun w h => hC w h.tail) hfit (show Y.n ≤ 900000 by omega) (show Y.buf.length ≤ 900000 by omega) HS).mono ?_; rintro e w_ ⟨v, rfl, HS_⟩; clear HS; have HS := HS_; clear HS_)
  go_ret
  exact ⟨_, rfl, HS.erase 2⟩

set_option maxRecDepth 100000 in
set_option maxHeartbeats 2000000 in
theorem do_G1_fence {X : SM} {deed tq : Int} (hC : ∀ w, Sat W0 w L → Kd.C k56 w Ac code.length code) (hT : ∀ w, Sat W0 w L → Kd.C (Kd.int .i64) w At sites.length sites) (hfit : ∀ i ∈ code, Fit i) (hnt : sites.length ≤ 1000000) (hn : X.n ≤ 700000) (hb : X.buf.length ≤ 700000) (he : X.s.ended = true) (hg : X.saved.isSome = true) {Y : SM} (hY : Aside0 (Y = { X with left := wrap64 (X.left - 1) })) (hd3 : ¬ deed = 3) (hl : ¬ X.left = 0) (h0 : 0 ≤ Y.s.pc) (h1 : Y.s.pc < (code.length : Int)) {i1 i2 i3 i4 i5 : Int} (hi : rd_T56 code Y.s.pc = ⟨10, i1, i2, i3, i4, i5⟩) (HS : Sat W0 w (mch g A n c (.slice Ac code.length cc) (.slice At sites.length ct) win X :: L)) :
    Calls Try.prog 22 #[.pointer (some ⟨g, 0, none⟩), .agg #[.int .i64 deed, .int .i64 tq]] w fun e w' => ∃ v, e = .returned v ∧ Sat W0 w' (row k66 66 v [⟨6, 0, 0⟩] :: mch g A n c (.slice Ac code.length cc) (.slice At sites.length ct) win (backF Y) :: L) := by
  obtain ⟨ad, rfl, _⟩ := at_T56 (hC w HS.tail) Y.s.pc h0 h1
  have hgY : Y.saved.isSome = true := by rw [hY.out]; exact hg
  have hYn : Y.n ≤ 700000 := by rw [hY.out]; exact hn
  have hYb : Y.buf.length ≤ 700000 := by rw [hY.out]; exact hb
  have d3 : (deed == 3) = false := beq_eq_false_iff_ne.mpr hd3
  have l0 : (X.left == 0) = false := beq_eq_false_iff_ne.mpr hl
  go_enter Try.func22, Try.ntmps22
  go_upto_region 1 with ((with_reducible refine gate_dst (N := 3) rfl ?_); go_must (refine ev_box HS rfl (N := 3) rfl (cs := #[.int .i64 deed, .int .i64 tq]) (t := 72) ?hrun ?_); (case hrun => first | (go_simp; done) | (go_simp; rfl)); clear HS; intro gd w HS)
  replace HS := HS.swap
  have HM := mchC HS 0 rfl
  have c65 := (HM.2.1 65 (by decide)).trans (stL_ended HM.1)
  have c64 := (HM.2.1 64 (by decide)).trans (stL_pc HM.1)
  have c69 := HM.2.2.2.1
  have c75 := HM.2.2.2.2.2.2.2
  have fs := HM.2.2.1
  clear HM
  have cd := HS.cell 1 rfl
  rw [he] at c65
  have HG := Aside0.mk (guesses_calls (show X.n ≤ 1000000 by omega) HS)
  rw [hg] at HG
  go_upto_region 3 with ((try (refine gate_guard (by rfl) ?_; dsimp only)); go_at_call 28; refine HG.out.mono ?_; rintro e w_ ⟨rfl, HS_⟩; clear HS HG; have HS := HS_; clear HS_)
  clear c65 c64 c69 c75 fs cd
  have HM := mchC HS 0 rfl
  have c65 := (HM.2.1 65 (by decide)).trans (stL_ended HM.1)
  have c64 := (HM.2.1 64 (by decide)).trans (stL_pc HM.1)
  have c69 := HM.2.2.2.1
  have c75 := HM.2.2.2.2.2.2.2
  have fs := HM.2.2.1
  clear HM
  have cd := HS.cell 1 rfl
  have HG := Aside0.mk (guesses_calls (show X.n ≤ 1000000 by omega) HS)
  rw [hg] at HG
  go_upto_region 4 with (go_at_call 28; refine HG.out.mono ?_; rintro e w_ ⟨rfl, HS_⟩; clear HS HG; have HS := HS_; clear HS_)
  clear c65 c64 c69 c75 fs cd
  have HM := mchC HS 0 rfl
  have c65 := (HM.2.1 65 (by decide)).trans (stL_ended HM.1)
  have c64 := (HM.2.1 64 (by decide)).trans (stL_pc HM.1)
  have c69 := HM.2.2.2.1
  have c75 := HM.2.2.2.2.2.2.2
  have fs := HM.2.2.1
  clear HM
  have cd := HS.cell 1 rfl
  go_upto_region 7 with (fail)
  refine wp_sat (mchLeft HS (wrap64 (X.left - 1))) (fun w HS => ?_)
  clear c65 c64 c69 c75 fs cd
  have HS_ := HS
  clear HS
  have HS : Sat W0 w (mch g A n c (.slice (some ad) code.length cc) (.slice At sites.length ct) win Y :: blk gd 72 #[.int .i64 deed, .int .i64 tq] :: L) := by rw [hY.out]; exact HS_
  clear HS_
  have HM := mchC HS 0 rfl
  have c65 := (HM.2.1 65 (by decide)).trans (stL_ended HM.1)
  have c64 := (HM.2.1 64 (by decide)).trans (stL_pc HM.1)
  have c69 := HM.2.2.2.1
  have c75 := HM.2.2.2.2.2.2.2
  have fs := HM.2.2.1
  clear HM
  have cd := HS.cell 1 rfl
  have h0b : decide (Y.s.pc < 0) = false := decide_eq_false (by omega)
  have h1b : decide ((code.length : Int) ≤ Y.s.pc) = false := decide_eq_false (by omega)
  have q0 := eq_true h0
  have q1 := eq_true h1
  go_quiet (fail)
  have HQ := HS
  clear HS
  have HS := HQ
  clear HQ
  (first | refine then_drawnN HS (fun w HS => ?_) | refine wp_drawnN HS (fun w HS => ?_))
  clear c65 c64 c69 c75 fs cd
  go_upto_region 9 with (fail)
  have HP := HS.addFact (φ := True) trivial
  clear HS
  have HS := HP
  clear HP
  refine start_ (n := 13) (S := fun w' => ∃ c', Sat W0 w' (c' :: mch g A n c (.slice (some ad) code.length cc) (.slice At sites.length ct) win Y :: blk gd 72 #[.int .i64 deed, .int .i64 tq] :: L)) (ds := []) #[false, false, false, false, false, false, false, false, false, false, false, false, false] (by kernel_rfl) rfl rfl ⟨_, HS.drew⟩ (fun hHeld => ?_)
  replace HS := HS.drew
  generalize World.drew w = w at HS hHeld ⊢
  refine pure_ (i := 0) (N := some 62) (v := ?_) (a' := ?_) #[true, false, false, false, false, false, false, false, false, false, false, false, false] rfl rfl (by kernel_rfl) (fun _ _ _ h => h) (Or.inl ⟨by rfl, ?_⟩) ?_ ?_
  rotate_left
  · intro w'
    go_simp
    with_reducible rfl
  rotate_left
  · (try simp only [Act.put, List.setIfInBounds_toArray, List.set_cons_zero, List.set_cons_succ, i64_w, i32_w])
    rfl
  refine pure_ (i := 1) (N := some 63) (v := ?_) (a' := ?_) #[true, true, false, false, false, false, false, false, false, false, false, false, false] rfl rfl (by kernel_rfl) (fun _ _ _ h => h) (Or.inl ⟨by rfl, ?_⟩) ?_ ?_
  rotate_left
  · intro w'
    go_simp
    with_reducible rfl
  rotate_left
  · (try simp only [Act.put, List.setIfInBounds_toArray, List.set_cons_zero, List.set_cons_succ, i64_w, i32_w])
    rfl
  refine pure_ (i := 2) (N := some 64) (v := ?_) (a' := ?_) #[true, true, true, false, false, false, false, false, false, false, false, false, false] rfl rfl (by kernel_rfl) (fun _ _ _ h => h) (Or.inl ⟨by rfl, ?_⟩) ?_ ?_
  rotate_left
  · intro w'
    go_simp
    with_reducible rfl
  rotate_left
  · (try simp only [Act.put, List.setIfInBounds_toArray, List.set_cons_zero, List.set_cons_succ, i64_w, i32_w])
    rfl
  refine take_ (i := 3) (N := some 65) (v := ?_) (a' := ?_) #[true, true, true, true, false, false, false, false, false, false, false, false, false] rfl rfl (by kernel_rfl) (fun _ _ _ h => h) (Or.inl ⟨by rfl, ?_⟩) hHeld ?_ ?_
  rotate_left
  · rintro w' hS
    obtain ⟨c', hS⟩ := hS
    have HM := mchC hS 1 rfl
    have c64 := (HM.2.1 64 (by decide)).trans (stL_pc HM.1)
    have c69 := HM.2.2.2.1
    clear HM
    obtain ⟨ad2, e2, x0, x1, x2, x3, x4, x5⟩ := at_T56 (hC w' hS.tail.tail.tail) Y.s.pc h0 h1
    cases e2
    rw [hi] at x0 x1 x2 x3 x4 x5
    go_simp
    with_reducible rfl
  rotate_left
  · (try simp only [Act.put, List.setIfInBounds_toArray, List.set_cons_zero, List.set_cons_succ, i64_w, i32_w])
    rfl
  refine pure_ (i := 4) (N := some 66) (v := ?_) (a' := ?_) #[true, true, true, true, true, false, false, false, false, false, false, false, false] rfl rfl (by kernel_rfl) (fun _ _ _ h => h) (Or.inl ⟨by rfl, ?_⟩) ?_ ?_
  rotate_left
  · intro w'
    go_simp
    with_reducible rfl
  rotate_left
  · (try simp only [Act.put, List.setIfInBounds_toArray, List.set_cons_zero, List.set_cons_succ, i64_w, i32_w])
    rfl
  refine pure_ (i := 5) (N := some 67) (v := ?_) (a' := ?_) #[true, true, true, true, true, true, false, false, false, false, false, false, false] rfl rfl (by kernel_rfl) (fun _ _ _ h => h) (Or.inl ⟨by rfl, ?_⟩) ?_ ?_
  rotate_left
  · intro w'
    go_simp
    with_reducible rfl
  rotate_left
  · (try simp only [Act.put, List.setIfInBounds_toArray, List.set_cons_zero, List.set_cons_succ, i64_w, i32_w])
    rfl
  refine pure_ (i := 6) (N := some 68) (v := ?_) (a' := ?_) #[true, true, true, true, true, true, true, false, false, false, false, false, false] rfl rfl (by kernel_rfl) (fun _ _ _ h => h) (Or.inl ⟨by rfl, ?_⟩) ?_ ?_
  rotate_left
  · intro w'
    go_simp
    with_reducible rfl
  rotate_left
  · (try simp only [Act.put, List.setIfInBounds_toArray, List.set_cons_zero, List.set_cons_succ, i64_w, i32_w])
    rfl
  refine pure_ (i := 7) (N := some 69) (v := ?_) (a' := ?_) #[true, true, true, true, true, true, true, true, false, false, false, false, false] rfl rfl (by kernel_rfl) (fun _ _ _ h => h) (Or.inl ⟨by rfl, ?_⟩) ?_ ?_
  rotate_left
  · intro w'
    go_simp
    with_reducible rfl
  rotate_left
  · (try simp only [Act.put, List.setIfInBounds_toArray, List.set_cons_zero, List.set_cons_succ, i64_w, i32_w])
    rfl
  refine take_ (i := 8) (N := some 70) (v := ?_) (a' := ?_) #[true, true, true, true, true, true, true, true, true, false, false, false, false] rfl rfl (by kernel_rfl) (fun _ _ _ h => h) (Or.inl ⟨by rfl, ?_⟩) hHeld ?_ ?_
  rotate_left
  · rintro w' hS
    obtain ⟨c', hS⟩ := hS
    have HM := mchC hS 1 rfl
    have c64 := (HM.2.1 64 (by decide)).trans (stL_pc HM.1)
    have c69 := HM.2.2.2.1
    clear HM
    obtain ⟨ad2, e2, x0, x1, x2, x3, x4, x5⟩ := at_T56 (hC w' hS.tail.tail.tail) Y.s.pc h0 h1
    cases e2
    rw [hi] at x0 x1 x2 x3 x4 x5
    go_simp
    with_reducible rfl
  rotate_left
  · (try simp only [Act.put, List.setIfInBounds_toArray, List.set_cons_zero, List.set_cons_succ, i64_w, i32_w])
    rfl
  refine pure_ (i := 9) (N := some 71) (v := ?_) (a' := ?_) #[true, true, true, true, true, true, true, true, true, true, false, false, false] rfl rfl (by kernel_rfl) (fun _ _ _ h => h) (Or.inl ⟨by rfl, ?_⟩) ?_ ?_
  rotate_left
  · intro w'
    go_simp
    with_reducible rfl
  rotate_left
  · (try simp only [Act.put, List.setIfInBounds_toArray, List.set_cons_zero, List.set_cons_succ, i64_w, i32_w])
    rfl
  refine take_ (i := 10) (N := some 72) (v := ?_) (a' := ?_) #[true, true, true, true, true, true, true, true, true, true, true, false, false] rfl rfl (by kernel_rfl) (fun _ _ _ h => h) (Or.inl ⟨by rfl, ?_⟩) hHeld ?_ ?_
  rotate_left
  · rintro w' hS
    obtain ⟨c', hS⟩ := hS
    have HM := mchC hS 1 rfl
    have c64 := (HM.2.1 64 (by decide)).trans (stL_pc HM.1)
    have c69 := HM.2.2.2.1
    clear HM
    obtain ⟨ad2, e2, x0, x1, x2, x3, x4, x5⟩ := at_T56 (hC w' hS.tail.tail.tail) Y.s.pc h0 h1
    cases e2
    rw [hi] at x0 x1 x2 x3 x4 x5
    go_simp
    with_reducible rfl
  rotate_left
  · (try simp only [Act.put, List.setIfInBounds_toArray, List.set_cons_zero, List.set_cons_succ, i64_w, i32_w])
    rfl
  refine one_ (i := 11) (N := some 5) #[true, true, true, true, true, true, true, true, true, true, true, true, false] rfl rfl (by kernel_rfl) (by decide) (fun K hK => ?_)
  refine ev_box_step HS.tail (by rfl) (N := 5) rfl (cs := #[.int .i64 0, .int .i64 0, .int .i64 0, .int .i64 0, .int .i64 0, .int .i64 0]) (t := 56) ?hrun ?_
  (case hrun => first | (go_simp; done) | (go_simp; rfl))
  clear HS
  intro gi w HS
  refine hK.out _ _ ⟨_, HS⟩ (fun hHeld => ?_)
  clear hK K
  refine norm_ (a' := ?_) ?_ ?_
  rotate_left
  · show Act.put _ _ _ = _
    (try simp only [Act.put, List.setIfInBounds_toArray, List.set_cons_zero, List.set_cons_succ, i64_w, i32_w])
    rfl
  refine one_ (i := 12) (N := none) #[true, true, true, true, true, true, true, true, true, true, true, true, true] rfl rfl (by kernel_rfl) (by decide) (fun K hK => ?_)
  refine ev_store_step HS 0 rfl (by rfl) 56 (.tmp 5) (.tmp 72) rfl rfl rfl [.int .i64 10, .int .i64 i1, .int .i64 i2, .int .i64 i3, .int .i64 i4, .int .i64 i5] (by first | rfl | (go_simp; done)) (by kernel_rfl) (by rfl) (by simp [Value.oneCell']) ?_
  clear HS
  intro w HS
  refine hK.out _ _ ⟨_, HS⟩ (fun hHeld => ?_)
  clear hK K
  refine done_ (by kernel_rfl) ?_
  clear hHeld
  have HS_ : Sat W0 w (mch g A n c (.slice (some ad) code.length cc) (.slice At sites.length ct) win Y :: blk gi 56 #[.int .i64 10, .int .i64 i1, .int .i64 i2, .int .i64 i3, .int .i64 i4, .int .i64 i5] :: blk gd 72 #[.int .i64 deed, .int .i64 tq] :: L) := HS.swap
  clear HS
  have HS := HS_
  clear HS_
  have ci := HS.cell 1 rfl
  have cd := HS.cell 2 rfl
  obtain ⟨p, hp⟩ := Option.isSome_iff_exists.1 hgY
  have HP := Aside0.mk hp
  clear hp
  have HG := Aside0.mk (guesses_calls (show Y.n ≤ 1000000 by omega) HS)
  rw [hgY] at HG
  go_upto_region 11 with ((try (refine gate_guard (by rfl) ?_; dsimp only)); go_at_call 28; refine HG.out.mono ?_; rintro e w_ ⟨rfl, HS_⟩; clear HS HG; have HS := HS_; clear HS_)
  go_wp2_with (go_at_call 29; refine (back_calls HP.out HS).mono ?_; rintro e w_ ⟨v, rfl, HS_⟩; clear HS; have HS := HS_; clear HS_)
  go_ret
  exact ⟨_, rfl, (HS.erase 2).erase 2⟩

set_option maxRecDepth 100000 in
set_option maxHeartbeats 2000000 in
theorem do_G1_w7 {X : SM} {tq : Int} (hC : ∀ w, Sat W0 w L → Kd.C k56 w Ac code.length code) (hT : ∀ w, Sat W0 w L → Kd.C (Kd.int .i64) w At sites.length sites) (hfit : ∀ i ∈ code, Fit i) (hnt : sites.length ≤ 1000000) (hn : X.n ≤ 700000) (hb : X.buf.length ≤ 700000) (he : X.s.ended = true) (hg : X.saved.isSome = true) {Y : SM} (hY : Aside0 (Y = { X with left := wrap64 (X.left - 1) })) (hl : ¬ X.left = 0) (h0 : 0 ≤ Y.s.pc) (h1 : Y.s.pc < (code.length : Int)) {i1 i2 i3 i4 i5 : Int} (hi : rd_T56 code Y.s.pc = ⟨7, i1, i2, i3, i4, i5⟩) (HS : Sat W0 w (mch g A n c (.slice Ac code.length cc) (.slice At sites.length ct) win X :: L)) :
    Calls Try.prog 22 #[.pointer (some ⟨g, 0, none⟩), .agg #[.int .i64 1, .int .i64 tq]] w fun e w' => ∃ v, e = .returned v ∧ Sat W0 w' (row k66 66 v (wrongF code sites win 7 i5 tq Y).2 :: mch g A n c (.slice Ac code.length cc) (.slice At sites.length ct) win (wrongF code sites win 7 i5 tq Y).1 :: L) := by
  obtain ⟨ad, rfl, _⟩ := at_T56 (hC w HS.tail) Y.s.pc h0 h1
  have hgY : Y.saved.isSome = true := by rw [hY.out]; exact hg
  have hYn : Y.n ≤ 700000 := by rw [hY.out]; exact hn
  have hYb : Y.buf.length ≤ 700000 := by rw [hY.out]; exact hb
  have l0 : (X.left == 0) = false := beq_eq_false_iff_ne.mpr hl
  go_enter Try.func22, Try.ntmps22
  go_upto_region 1 with ((with_reducible refine gate_dst (N := 3) rfl ?_); go_must (refine ev_box HS rfl (N := 3) rfl (cs := #[.int .i64 1, .int .i64 tq]) (t := 72) ?hrun ?_); (case hrun => first | (go_simp; done) | (go_simp; rfl)); clear HS; intro gd w HS)
  replace HS := HS.swap
  have HM := mchC HS 0 rfl
  have c65 := (HM.2.1 65 (by decide)).trans (stL_ended HM.1)
  have c64 := (HM.2.1 64 (by decide)).trans (stL_pc HM.1)
  have c69 := HM.2.2.2.1
  have c75 := HM.2.2.2.2.2.2.2
  have fs := HM.2.2.1
  clear HM
  have cd := HS.cell 1 rfl
  rw [he] at c65
  have HG := Aside0.mk (guesses_calls (show X.n ≤ 1000000 by omega) HS)
  rw [hg] at HG
  go_upto_region 3 with ((try (refine gate_guard (by rfl) ?_; dsimp only)); go_at_call 28; refine HG.out.mono ?_; rintro e w_ ⟨rfl, HS_⟩; clear HS HG; have HS := HS_; clear HS_)
  clear c65 c64 c69 c75 fs cd
  have HM := mchC HS 0 rfl
  have c65 := (HM.2.1 65 (by decide)).trans (stL_ended HM.1)
  have c64 := (HM.2.1 64 (by decide)).trans (stL_pc HM.1)
  have c69 := HM.2.2.2.1
  have c75 := HM.2.2.2.2.2.2.2
  have fs := HM.2.2.1
  clear HM
  have cd := HS.cell 1 rfl
  have HG := Aside0.mk (guesses_calls (show X.n ≤ 1000000 by omega) HS)
  rw [hg] at HG
  go_upto_region 4 with (go_at_call 28; refine HG.out.mono ?_; rintro e w_ ⟨rfl, HS_⟩; clear HS HG; have HS := HS_; clear HS_)
  clear c65 c64 c69 c75 fs cd
  have HM := mchC HS 0 rfl
  have c65 := (HM.2.1 65 (by decide)).trans (stL_ended HM.1)
  have c64 := (HM.2.1 64 (by decide)).trans (stL_pc HM.1)
  have c69 := HM.2.2.2.1
  have c75 := HM.2.2.2.2.2.2.2
  have fs := HM.2.2.1
  clear HM
  have cd := HS.cell 1 rfl
  go_upto_region 7 with (fail)
  refine wp_sat (mchLeft HS (wrap64 (X.left - 1))) (fun w HS => ?_)
  clear c65 c64 c69 c75 fs cd
  have HS_ := HS
  clear HS
  have HS : Sat W0 w (mch g A n c (.slice (some ad) code.length cc) (.slice At sites.length ct) win Y :: blk gd 72 #[.int .i64 1, .int .i64 tq] :: L) := by rw [hY.out]; exact HS_
  clear HS_
  have HM := mchC HS 0 rfl
  have c65 := (HM.2.1 65 (by decide)).trans (stL_ended HM.1)
  have c64 := (HM.2.1 64 (by decide)).trans (stL_pc HM.1)
  have c69 := HM.2.2.2.1
  have c75 := HM.2.2.2.2.2.2.2
  have fs := HM.2.2.1
  clear HM
  have cd := HS.cell 1 rfl
  have h0b : decide (Y.s.pc < 0) = false := decide_eq_false (by omega)
  have h1b : decide ((code.length : Int) ≤ Y.s.pc) = false := decide_eq_false (by omega)
  have q0 := eq_true h0
  have q1 := eq_true h1
  go_quiet (fail)
  have HQ := HS
  clear HS
  have HS := HQ
  clear HQ
  (first | refine then_drawnN HS (fun w HS => ?_) | refine wp_drawnN HS (fun w HS => ?_))
  clear c65 c64 c69 c75 fs cd
  go_upto_region 9 with (fail)
  have HP := HS.addFact (φ := True) trivial
  clear HS
  have HS := HP
  clear HP
  refine start_ (n := 13) (S := fun w' => ∃ c', Sat W0 w' (c' :: mch g A n c (.slice (some ad) code.length cc) (.slice At sites.length ct) win Y :: blk gd 72 #[.int .i64 1, .int .i64 tq] :: L)) (ds := []) #[false, false, false, false, false, false, false, false, false, false, false, false, false] (by kernel_rfl) rfl rfl ⟨_, HS.drew⟩ (fun hHeld => ?_)
  replace HS := HS.drew
  generalize World.drew w = w at HS hHeld ⊢
  refine pure_ (i := 0) (N := some 62) (v := ?_) (a' := ?_) #[true, false, false, false, false, false, false, false, false, false, false, false, false] rfl rfl (by kernel_rfl) (fun _ _ _ h => h) (Or.inl ⟨by rfl, ?_⟩) ?_ ?_
  rotate_left
  · intro w'
    go_simp
    with_reducible rfl
  rotate_left
  · (try simp only [Act.put, List.setIfInBounds_toArray, List.set_cons_zero, List.set_cons_succ, i64_w, i32_w])
    rfl
  refine pure_ (i := 1) (N := some 63) (v := ?_) (a' := ?_) #[true, true, false, false, false, false, false, false, false, false, false, false, false] rfl rfl (by kernel_rfl) (fun _ _ _ h => h) (Or.inl ⟨by rfl, ?_⟩) ?_ ?_
  rotate_left
  · intro w'
    go_simp
    with_reducible rfl
  rotate_left
  · (try simp only [Act.put, List.setIfInBounds_toArray, List.set_cons_zero, List.set_cons_succ, i64_w, i32_w])
    rfl
  refine pure_ (i := 2) (N := some 64) (v := ?_) (a' := ?_) #[true, true, true, false, false, false, false, false, false, false, false, false, false] rfl rfl (by kernel_rfl) (fun _ _ _ h => h) (Or.inl ⟨by rfl, ?_⟩) ?_ ?_
  rotate_left
  · intro w'
    go_simp
    with_reducible rfl
  rotate_left
  · (try simp only [Act.put, List.setIfInBounds_toArray, List.set_cons_zero, List.set_cons_succ, i64_w, i32_w])
    rfl
  refine take_ (i := 3) (N := some 65) (v := ?_) (a' := ?_) #[true, true, true, true, false, false, false, false, false, false, false, false, false] rfl rfl (by kernel_rfl) (fun _ _ _ h => h) (Or.inl ⟨by rfl, ?_⟩) hHeld ?_ ?_
  rotate_left
  · rintro w' hS
    obtain ⟨c', hS⟩ := hS
    have HM := mchC hS 1 rfl
    have c64 := (HM.2.1 64 (by decide)).trans (stL_pc HM.1)
    have c69 := HM.2.2.2.1
    clear HM
    obtain ⟨ad2, e2, x0, x1, x2, x3, x4, x5⟩ := at_T56 (hC w' hS.tail.tail.tail) Y.s.pc h0 h1
    cases e2
    rw [hi] at x0 x1 x2 x3 x4 x5
    go_simp
    with_reducible rfl
  rotate_left
  · (try simp only [Act.put, List.setIfInBounds_toArray, List.set_cons_zero, List.set_cons_succ, i64_w, i32_w])
    rfl
  refine pure_ (i := 4) (N := some 66) (v := ?_) (a' := ?_) #[true, true, true, true, true, false, false, false, false, false, false, false, false] rfl rfl (by kernel_rfl) (fun _ _ _ h => h) (Or.inl ⟨by rfl, ?_⟩) ?_ ?_
  rotate_left
  · intro w'
    go_simp
    with_reducible rfl
  rotate_left
  · (try simp only [Act.put, List.setIfInBounds_toArray, List.set_cons_zero, List.set_cons_succ, i64_w, i32_w])
    rfl
  refine pure_ (i := 5) (N := some 67) (v := ?_) (a' := ?_) #[true, true, true, true, true, true, false, false, false, false, false, false, false] rfl rfl (by kernel_rfl) (fun _ _ _ h => h) (Or.inl ⟨by rfl, ?_⟩) ?_ ?_
  rotate_left
  · intro w'
    go_simp
    with_reducible rfl
  rotate_left
  · (try simp only [Act.put, List.setIfInBounds_toArray, List.set_cons_zero, List.set_cons_succ, i64_w, i32_w])
    rfl
  refine pure_ (i := 6) (N := some 68) (v := ?_) (a' := ?_) #[true, true, true, true, true, true, true, false, false, false, false, false, false] rfl rfl (by kernel_rfl) (fun _ _ _ h => h) (Or.inl ⟨by rfl, ?_⟩) ?_ ?_
  rotate_left
  · intro w'
    go_simp
    with_reducible rfl
  rotate_left
  · (try simp only [Act.put, List.setIfInBounds_toArray, List.set_cons_zero, List.set_cons_succ, i64_w, i32_w])
    rfl
  refine pure_ (i := 7) (N := some 69) (v := ?_) (a' := ?_) #[true, true, true, true, true, true, true, true, false, false, false, false, false] rfl rfl (by kernel_rfl) (fun _ _ _ h => h) (Or.inl ⟨by rfl, ?_⟩) ?_ ?_
  rotate_left
  · intro w'
    go_simp
    with_reducible rfl
  rotate_left
  · (try simp only [Act.put, List.setIfInBounds_toArray, List.set_cons_zero, List.set_cons_succ, i64_w, i32_w])
    rfl
  refine take_ (i := 8) (N := some 70) (v := ?_) (a' := ?_) #[true, true, true, true, true, true, true, true, true, false, false, false, false] rfl rfl (by kernel_rfl) (fun _ _ _ h => h) (Or.inl ⟨by rfl, ?_⟩) hHeld ?_ ?_
  rotate_left
  · rintro w' hS
    obtain ⟨c', hS⟩ := hS
    have HM := mchC hS 1 rfl
    have c64 := (HM.2.1 64 (by decide)).trans (stL_pc HM.1)
    have c69 := HM.2.2.2.1
    clear HM
    obtain ⟨ad2, e2, x0, x1, x2, x3, x4, x5⟩ := at_T56 (hC w' hS.tail.tail.tail) Y.s.pc h0 h1
    cases e2
    rw [hi] at x0 x1 x2 x3 x4 x5
    go_simp
    with_reducible rfl
  rotate_left
  · (try simp only [Act.put, List.setIfInBounds_toArray, List.set_cons_zero, List.set_cons_succ, i64_w, i32_w])
    rfl
  refine pure_ (i := 9) (N := some 71) (v := ?_) (a' := ?_) #[true, true, true, true, true, true, true, true, true, true, false, false, false] rfl rfl (by kernel_rfl) (fun _ _ _ h => h) (Or.inl ⟨by rfl, ?_⟩) ?_ ?_
  rotate_left
  · intro w'
    go_simp
    with_reducible rfl
  rotate_left
  · (try simp only [Act.put, List.setIfInBounds_toArray, List.set_cons_zero, List.set_cons_succ, i64_w, i32_w])
    rfl
  refine take_ (i := 10) (N := some 72) (v := ?_) (a' := ?_) #[true, true, true, true, true, true, true, true, true, true, true, false, false] rfl rfl (by kernel_rfl) (fun _ _ _ h => h) (Or.inl ⟨by rfl, ?_⟩) hHeld ?_ ?_
  rotate_left
  · rintro w' hS
    obtain ⟨c', hS⟩ := hS
    have HM := mchC hS 1 rfl
    have c64 := (HM.2.1 64 (by decide)).trans (stL_pc HM.1)
    have c69 := HM.2.2.2.1
    clear HM
    obtain ⟨ad2, e2, x0, x1, x2, x3, x4, x5⟩ := at_T56 (hC w' hS.tail.tail.tail) Y.s.pc h0 h1
    cases e2
    rw [hi] at x0 x1 x2 x3 x4 x5
    go_simp
    with_reducible rfl
  rotate_left
  · (try simp only [Act.put, List.setIfInBounds_toArray, List.set_cons_zero, List.set_cons_succ, i64_w, i32_w])
    rfl
  refine one_ (i := 11) (N := some 5) #[true, true, true, true, true, true, true, true, true, true, true, true, false] rfl rfl (by kernel_rfl) (by decide) (fun K hK => ?_)
  refine ev_box_step HS.tail (by rfl) (N := 5) rfl (cs := #[.int .i64 0, .int .i64 0, .int .i64 0, .int .i64 0, .int .i64 0, .int .i64 0]) (t := 56) ?hrun ?_
  (case hrun => first | (go_simp; done) | (go_simp; rfl))
  clear HS
  intro gi w HS
  refine hK.out _ _ ⟨_, HS⟩ (fun hHeld => ?_)
  clear hK K
  refine norm_ (a' := ?_) ?_ ?_
  rotate_left
  · show Act.put _ _ _ = _
    (try simp only [Act.put, List.setIfInBounds_toArray, List.set_cons_zero, List.set_cons_succ, i64_w, i32_w])
    rfl
  refine one_ (i := 12) (N := none) #[true, true, true, true, true, true, true, true, true, true, true, true, true] rfl rfl (by kernel_rfl) (by decide) (fun K hK => ?_)
  refine ev_store_step HS 0 rfl (by rfl) 56 (.tmp 5) (.tmp 72) rfl rfl rfl [.int .i64 7, .int .i64 i1, .int .i64 i2, .int .i64 i3, .int .i64 i4, .int .i64 i5] (by first | rfl | (go_simp; done)) (by kernel_rfl) (by rfl) (by simp [Value.oneCell']) ?_
  clear HS
  intro w HS
  refine hK.out _ _ ⟨_, HS⟩ (fun hHeld => ?_)
  clear hK K
  refine done_ (by kernel_rfl) ?_
  clear hHeld
  have HS_ : Sat W0 w (mch g A n c (.slice (some ad) code.length cc) (.slice At sites.length ct) win Y :: blk gi 56 #[.int .i64 7, .int .i64 i1, .int .i64 i2, .int .i64 i3, .int .i64 i4, .int .i64 i5] :: blk gd 72 #[.int .i64 1, .int .i64 tq] :: L) := HS.swap
  clear HS
  have HS := HS_
  clear HS_
  have ci := HS.cell 1 rfl
  have cd := HS.cell 2 rfl
  go_upto_region 15 with (fail)
  go_wp2_with (first | ((with_reducible refine gate_load (ty := 56) (p := 5) rfl ?_); go_must (refine ev_load HS 1 rfl rfl 56 (.tmp 5) rfl (N := 104) rfl rfl _ Try.underlying56 rfl (by kernel_rfl) ?_)) | (go_at_call 32; refine (wrong_calls (fun w h => hC w h.tail.tail) hfit (show Y.n ≤ 800000 by omega) (show Y.buf.length ≤ 800000 by omega) (fun w h => hT w h.tail.tail) hnt HS).mono ?_; rintro e w_ ⟨v, rfl, HS_⟩; clear HS; have HS := HS_; clear HS_))
  go_ret
  exact ⟨_, rfl, (HS.erase 2).erase 2⟩

set_option maxRecDepth 100000 in
set_option maxHeartbeats 2000000 in
theorem do_G1_w9 {X : SM} {tq : Int} (hC : ∀ w, Sat W0 w L → Kd.C k56 w Ac code.length code) (hT : ∀ w, Sat W0 w L → Kd.C (Kd.int .i64) w At sites.length sites) (hfit : ∀ i ∈ code, Fit i) (hnt : sites.length ≤ 1000000) (hn : X.n ≤ 700000) (hb : X.buf.length ≤ 700000) (he : X.s.ended = true) (hg : X.saved.isSome = true) {Y : SM} (hY : Aside0 (Y = { X with left := wrap64 (X.left - 1) })) (hl : ¬ X.left = 0) (h0 : 0 ≤ Y.s.pc) (h1 : Y.s.pc < (code.length : Int)) {i1 i2 i3 i4 i5 : Int} (hi : rd_T56 code Y.s.pc = ⟨9, i1, i2, i3, i4, i5⟩) (HS : Sat W0 w (mch g A n c (.slice Ac code.length cc) (.slice At sites.length ct) win X :: L)) :
    Calls Try.prog 22 #[.pointer (some ⟨g, 0, none⟩), .agg #[.int .i64 1, .int .i64 tq]] w fun e w' => ∃ v, e = .returned v ∧ Sat W0 w' (row k66 66 v (wrongF code sites win 9 i5 tq Y).2 :: mch g A n c (.slice Ac code.length cc) (.slice At sites.length ct) win (wrongF code sites win 9 i5 tq Y).1 :: L) := by
  obtain ⟨ad, rfl, _⟩ := at_T56 (hC w HS.tail) Y.s.pc h0 h1
  have hgY : Y.saved.isSome = true := by rw [hY.out]; exact hg
  have hYn : Y.n ≤ 700000 := by rw [hY.out]; exact hn
  have hYb : Y.buf.length ≤ 700000 := by rw [hY.out]; exact hb
  have l0 : (X.left == 0) = false := beq_eq_false_iff_ne.mpr hl
  go_enter Try.func22, Try.ntmps22
  go_upto_region 1 with ((with_reducible refine gate_dst (N := 3) rfl ?_); go_must (refine ev_box HS rfl (N := 3) rfl (cs := #[.int .i64 1, .int .i64 tq]) (t := 72) ?hrun ?_); (case hrun => first | (go_simp; done) | (go_simp; rfl)); clear HS; intro gd w HS)
  replace HS := HS.swap
  have HM := mchC HS 0 rfl
  have c65 := (HM.2.1 65 (by decide)).trans (stL_ended HM.1)
  have c64 := (HM.2.1 64 (by decide)).trans (stL_pc HM.1)
  have c69 := HM.2.2.2.1
  have c75 := HM.2.2.2.2.2.2.2
  have fs := HM.2.2.1
  clear HM
  have cd := HS.cell 1 rfl
  rw [he] at c65
  have HG := Aside0.mk (guesses_calls (show X.n ≤ 1000000 by omega) HS)
  rw [hg] at HG
  go_upto_region 3 with ((try (refine gate_guard (by rfl) ?_; dsimp only)); go_at_call 28; refine HG.out.mono ?_; rintro e w_ ⟨rfl, HS_⟩; clear HS HG; have HS := HS_; clear HS_)
  clear c65 c64 c69 c75 fs cd
  have HM := mchC HS 0 rfl
  have c65 := (HM.2.1 65 (by decide)).trans (stL_ended HM.1)
  have c64 := (HM.2.1 64 (by decide)).trans (stL_pc HM.1)
  have c69 := HM.2.2.2.1
  have c75 := HM.2.2.2.2.2.2.2
  have fs := HM.2.2.1
  clear HM
  have cd := HS.cell 1 rfl
  have HG := Aside0.mk (guesses_calls (show X.n ≤ 1000000 by omega) HS)
  rw [hg] at HG
  go_upto_region 4 with (go_at_call 28; refine HG.out.mono ?_; rintro e w_ ⟨rfl, HS_⟩; clear HS HG; have HS := HS_; clear HS_)
  clear c65 c64 c69 c75 fs cd
  have HM := mchC HS 0 rfl
  have c65 := (HM.2.1 65 (by decide)).trans (stL_ended HM.1)
  have c64 := (HM.2.1 64 (by decide)).trans (stL_pc HM.1)
  have c69 := HM.2.2.2.1
  have c75 := HM.2.2.2.2.2.2.2
  have fs := HM.2.2.1
  clear HM
  have cd := HS.cell 1 rfl
  go_upto_region 7 with (fail)
  refine wp_sat (mchLeft HS (wrap64 (X.left - 1))) (fun w HS => ?_)
  clear c65 c64 c69 c75 fs cd
  have HS_ := HS
  clear HS
  have HS : Sat W0 w (mch g A n c (.slice (some ad) code.length cc) (.slice At sites.length ct) win Y :: blk gd 72 #[.int .i64 1, .int .i64 tq] :: L) := by rw [hY.out]; exact HS_
  clear HS_
  have HM := mchC HS 0 rfl
  have c65 := (HM.2.1 65 (by decide)).trans (stL_ended HM.1)
  have c64 := (HM.2.1 64 (by decide)).trans (stL_pc HM.1)
  have c69 := HM.2.2.2.1
  have c75 := HM.2.2.2.2.2.2.2
  have fs := HM.2.2.1
  clear HM
  have cd := HS.cell 1 rfl
  have h0b : decide (Y.s.pc < 0) = false := decide_eq_false (by omega)
  have h1b : decide ((code.length : Int) ≤ Y.s.pc) = false := decide_eq_false (by omega)
  have q0 := eq_true h0
  have q1 := eq_true h1
  go_quiet (fail)
  have HQ := HS
  clear HS
  have HS := HQ
  clear HQ
  (first | refine then_drawnN HS (fun w HS => ?_) | refine wp_drawnN HS (fun w HS => ?_))
  clear c65 c64 c69 c75 fs cd
  go_upto_region 9 with (fail)
  have HP := HS.addFact (φ := True) trivial
  clear HS
  have HS := HP
  clear HP
  refine start_ (n := 13) (S := fun w' => ∃ c', Sat W0 w' (c' :: mch g A n c (.slice (some ad) code.length cc) (.slice At sites.length ct) win Y :: blk gd 72 #[.int .i64 1, .int .i64 tq] :: L)) (ds := []) #[false, false, false, false, false, false, false, false, false, false, false, false, false] (by kernel_rfl) rfl rfl ⟨_, HS.drew⟩ (fun hHeld => ?_)
  replace HS := HS.drew
  generalize World.drew w = w at HS hHeld ⊢
  refine pure_ (i := 0) (N := some 62) (v := ?_) (a' := ?_) #[true, false, false, false, false, false, false, false, false, false, false, false, false] rfl rfl (by kernel_rfl) (fun _ _ _ h => h) (Or.inl ⟨by rfl, ?_⟩) ?_ ?_
  rotate_left
  · intro w'
    go_simp
    with_reducible rfl
  rotate_left
  · (try simp only [Act.put, List.setIfInBounds_toArray, List.set_cons_zero, List.set_cons_succ, i64_w, i32_w])
    rfl
  refine pure_ (i := 1) (N := some 63) (v := ?_) (a' := ?_) #[true, true, false, false, false, false, false, false, false, false, false, false, false] rfl rfl (by kernel_rfl) (fun _ _ _ h => h) (Or.inl ⟨by rfl, ?_⟩) ?_ ?_
  rotate_left
  · intro w'
    go_simp
    with_reducible rfl
  rotate_left
  · (try simp only [Act.put, List.setIfInBounds_toArray, List.set_cons_zero, List.set_cons_succ, i64_w, i32_w])
    rfl
  refine pure_ (i := 2) (N := some 64) (v := ?_) (a' := ?_) #[true, true, true, false, false, false, false, false, false, false, false, false, false] rfl rfl (by kernel_rfl) (fun _ _ _ h => h) (Or.inl ⟨by rfl, ?_⟩) ?_ ?_
  rotate_left
  · intro w'
    go_simp
    with_reducible rfl
  rotate_left
  · (try simp only [Act.put, List.setIfInBounds_toArray, List.set_cons_zero, List.set_cons_succ, i64_w, i32_w])
    rfl
  refine take_ (i := 3) (N := some 65) (v := ?_) (a' := ?_) #[true, true, true, true, false, false, false, false, false, false, false, false, false] rfl rfl (by kernel_rfl) (fun _ _ _ h => h) (Or.inl ⟨by rfl, ?_⟩) hHeld ?_ ?_
  rotate_left
  · rintro w' hS
    obtain ⟨c', hS⟩ := hS
    have HM := mchC hS 1 rfl
    have c64 := (HM.2.1 64 (by decide)).trans (stL_pc HM.1)
    have c69 := HM.2.2.2.1
    clear HM
    obtain ⟨ad2, e2, x0, x1, x2, x3, x4, x5⟩ := at_T56 (hC w' hS.tail.tail.tail) Y.s.pc h0 h1
    cases e2
    rw [hi] at x0 x1 x2 x3 x4 x5
    go_simp
    with_reducible rfl
  rotate_left
  · (try simp only [Act.put, List.setIfInBounds_toArray, List.set_cons_zero, List.set_cons_succ, i64_w, i32_w])
    rfl
  refine pure_ (i := 4) (N := some 66) (v := ?_) (a' := ?_) #[true, true, true, true, true, false, false, false, false, false, false, false, false] rfl rfl (by kernel_rfl) (fun _ _ _ h => h) (Or.inl ⟨by rfl, ?_⟩) ?_ ?_
  rotate_left
  · intro w'
    go_simp
    with_reducible rfl
  rotate_left
  · (try simp only [Act.put, List.setIfInBounds_toArray, List.set_cons_zero, List.set_cons_succ, i64_w, i32_w])
    rfl
  refine pure_ (i := 5) (N := some 67) (v := ?_) (a' := ?_) #[true, true, true, true, true, true, false, false, false, false, false, false, false] rfl rfl (by kernel_rfl) (fun _ _ _ h => h) (Or.inl ⟨by rfl, ?_⟩) ?_ ?_
  rotate_left
  · intro w'
    go_simp
    with_reducible rfl
  rotate_left
  · (try simp only [Act.put, List.setIfInBounds_toArray, List.set_cons_zero, List.set_cons_succ, i64_w, i32_w])
    rfl
  refine pure_ (i := 6) (N := some 68) (v := ?_) (a' := ?_) #[true, true, true, true, true, true, true, false, false, false, false, false, false] rfl rfl (by kernel_rfl) (fun _ _ _ h => h) (Or.inl ⟨by rfl, ?_⟩) ?_ ?_
  rotate_left
  · intro w'
    go_simp
    with_reducible rfl
  rotate_left
  · (try simp only [Act.put, List.setIfInBounds_toArray, List.set_cons_zero, List.set_cons_succ, i64_w, i32_w])
    rfl
  refine pure_ (i := 7) (N := some 69) (v := ?_) (a' := ?_) #[true, true, true, true, true, true, true, true, false, false, false, false, false] rfl rfl (by kernel_rfl) (fun _ _ _ h => h) (Or.inl ⟨by rfl, ?_⟩) ?_ ?_
  rotate_left
  · intro w'
    go_simp
    with_reducible rfl
  rotate_left
  · (try simp only [Act.put, List.setIfInBounds_toArray, List.set_cons_zero, List.set_cons_succ, i64_w, i32_w])
    rfl
  refine take_ (i := 8) (N := some 70) (v := ?_) (a' := ?_) #[true, true, true, true, true, true, true, true, true, false, false, false, false] rfl rfl (by kernel_rfl) (fun _ _ _ h => h) (Or.inl ⟨by rfl, ?_⟩) hHeld ?_ ?_
  rotate_left
  · rintro w' hS
    obtain ⟨c', hS⟩ := hS
    have HM := mchC hS 1 rfl
    have c64 := (HM.2.1 64 (by decide)).trans (stL_pc HM.1)
    have c69 := HM.2.2.2.1
    clear HM
    obtain ⟨ad2, e2, x0, x1, x2, x3, x4, x5⟩ := at_T56 (hC w' hS.tail.tail.tail) Y.s.pc h0 h1
    cases e2
    rw [hi] at x0 x1 x2 x3 x4 x5
    go_simp
    with_reducible rfl
  rotate_left
  · (try simp only [Act.put, List.setIfInBounds_toArray, List.set_cons_zero, List.set_cons_succ, i64_w, i32_w])
    rfl
  refine pure_ (i := 9) (N := some 71) (v := ?_) (a' := ?_) #[true, true, true, true, true, true, true, true, true, true, false, false, false] rfl rfl (by kernel_rfl) (fun _ _ _ h => h) (Or.inl ⟨by rfl, ?_⟩) ?_ ?_
  rotate_left
  · intro w'
    go_simp
    with_reducible rfl
  rotate_left
  · (try simp only [Act.put, List.setIfInBounds_toArray, List.set_cons_zero, List.set_cons_succ, i64_w, i32_w])
    rfl
  refine take_ (i := 10) (N := some 72) (v := ?_) (a' := ?_) #[true, true, true, true, true, true, true, true, true, true, true, false, false] rfl rfl (by kernel_rfl) (fun _ _ _ h => h) (Or.inl ⟨by rfl, ?_⟩) hHeld ?_ ?_
  rotate_left
  · rintro w' hS
    obtain ⟨c', hS⟩ := hS
    have HM := mchC hS 1 rfl
    have c64 := (HM.2.1 64 (by decide)).trans (stL_pc HM.1)
    have c69 := HM.2.2.2.1
    clear HM
    obtain ⟨ad2, e2, x0, x1, x2, x3, x4, x5⟩ := at_T56 (hC w' hS.tail.tail.tail) Y.s.pc h0 h1
    cases e2
    rw [hi] at x0 x1 x2 x3 x4 x5
    go_simp
    with_reducible rfl
  rotate_left
  · (try simp only [Act.put, List.setIfInBounds_toArray, List.set_cons_zero, List.set_cons_succ, i64_w, i32_w])
    rfl
  refine one_ (i := 11) (N := some 5) #[true, true, true, true, true, true, true, true, true, true, true, true, false] rfl rfl (by kernel_rfl) (by decide) (fun K hK => ?_)
  refine ev_box_step HS.tail (by rfl) (N := 5) rfl (cs := #[.int .i64 0, .int .i64 0, .int .i64 0, .int .i64 0, .int .i64 0, .int .i64 0]) (t := 56) ?hrun ?_
  (case hrun => first | (go_simp; done) | (go_simp; rfl))
  clear HS
  intro gi w HS
  refine hK.out _ _ ⟨_, HS⟩ (fun hHeld => ?_)
  clear hK K
  refine norm_ (a' := ?_) ?_ ?_
  rotate_left
  · show Act.put _ _ _ = _
    (try simp only [Act.put, List.setIfInBounds_toArray, List.set_cons_zero, List.set_cons_succ, i64_w, i32_w])
    rfl
  refine one_ (i := 12) (N := none) #[true, true, true, true, true, true, true, true, true, true, true, true, true] rfl rfl (by kernel_rfl) (by decide) (fun K hK => ?_)
  refine ev_store_step HS 0 rfl (by rfl) 56 (.tmp 5) (.tmp 72) rfl rfl rfl [.int .i64 9, .int .i64 i1, .int .i64 i2, .int .i64 i3, .int .i64 i4, .int .i64 i5] (by first | rfl | (go_simp; done)) (by kernel_rfl) (by rfl) (by simp [Value.oneCell']) ?_
  clear HS
  intro w HS
  refine hK.out _ _ ⟨_, HS⟩ (fun hHeld => ?_)
  clear hK K
  refine done_ (by kernel_rfl) ?_
  clear hHeld
  have HS_ : Sat W0 w (mch g A n c (.slice (some ad) code.length cc) (.slice At sites.length ct) win Y :: blk gi 56 #[.int .i64 9, .int .i64 i1, .int .i64 i2, .int .i64 i3, .int .i64 i4, .int .i64 i5] :: blk gd 72 #[.int .i64 1, .int .i64 tq] :: L) := HS.swap
  clear HS
  have HS := HS_
  clear HS_
  have ci := HS.cell 1 rfl
  have cd := HS.cell 2 rfl
  go_upto_region 15 with (fail)
  go_wp2_with (first | ((with_reducible refine gate_load (ty := 56) (p := 5) rfl ?_); go_must (refine ev_load HS 1 rfl rfl 56 (.tmp 5) rfl (N := 104) rfl rfl _ Try.underlying56 rfl (by kernel_rfl) ?_)) | (go_at_call 32; refine (wrong_calls (fun w h => hC w h.tail.tail) hfit (show Y.n ≤ 800000 by omega) (show Y.buf.length ≤ 800000 by omega) (fun w h => hT w h.tail.tail) hnt HS).mono ?_; rintro e w_ ⟨v, rfl, HS_⟩; clear HS; have HS := HS_; clear HS_))
  go_ret
  exact ⟨_, rfl, (HS.erase 2).erase 2⟩

set_option maxRecDepth 100000 in
set_option maxHeartbeats 2000000 in
theorem do_G1_st {X : SM} {tq : Int} (hC : ∀ w, Sat W0 w L → Kd.C k56 w Ac code.length code) (hT : ∀ w, Sat W0 w L → Kd.C (Kd.int .i64) w At sites.length sites) (hfit : ∀ i ∈ code, Fit i) (hnt : sites.length ≤ 1000000) (hn : X.n ≤ 700000) (hb : X.buf.length ≤ 700000) (he : X.s.ended = true) (hg : X.saved.isSome = true) {Y : SM} (hY : Aside0 (Y = { X with left := wrap64 (X.left - 1) })) (hl : ¬ X.left = 0) (h0 : 0 ≤ Y.s.pc) (h1 : Y.s.pc < (code.length : Int)) {i1 i2 i3 i4 i5 : Int} (hi : rd_T56 code Y.s.pc = ⟨4, i1, i2, i3, i4, i5⟩) (HS : Sat W0 w (mch g A n c (.slice Ac code.length cc) (.slice At sites.length ct) win X :: L)) :
    Calls Try.prog 22 #[.pointer (some ⟨g, 0, none⟩), .agg #[.int .i64 2, .int .i64 tq]] w fun e w' => ∃ v, e = .returned v ∧ Sat W0 w' (row k66 66 v (staleF code win Y).2 :: mch g A n c (.slice Ac code.length cc) (.slice At sites.length ct) win (staleF code win Y).1 :: L) := by
  obtain ⟨ad, rfl, _⟩ := at_T56 (hC w HS.tail) Y.s.pc h0 h1
  have hgY : Y.saved.isSome = true := by rw [hY.out]; exact hg
  have hYn : Y.n ≤ 700000 := by rw [hY.out]; exact hn
  have hYb : Y.buf.length ≤ 700000 := by rw [hY.out]; exact hb
  have l0 : (X.left == 0) = false := beq_eq_false_iff_ne.mpr hl
  go_enter Try.func22, Try.ntmps22
  go_upto_region 1 with ((with_reducible refine gate_dst (N := 3) rfl ?_); go_must (refine ev_box HS rfl (N := 3) rfl (cs := #[.int .i64 2, .int .i64 tq]) (t := 72) ?hrun ?_); (case hrun => first | (go_simp; done) | (go_simp; rfl)); clear HS; intro gd w HS)
  replace HS := HS.swap
  have HM := mchC HS 0 rfl
  have c65 := (HM.2.1 65 (by decide)).trans (stL_ended HM.1)
  have c64 := (HM.2.1 64 (by decide)).trans (stL_pc HM.1)
  have c69 := HM.2.2.2.1
  have c75 := HM.2.2.2.2.2.2.2
  have fs := HM.2.2.1
  clear HM
  have cd := HS.cell 1 rfl
  rw [he] at c65
  have HG := Aside0.mk (guesses_calls (show X.n ≤ 1000000 by omega) HS)
  rw [hg] at HG
  go_upto_region 3 with ((try (refine gate_guard (by rfl) ?_; dsimp only)); go_at_call 28; refine HG.out.mono ?_; rintro e w_ ⟨rfl, HS_⟩; clear HS HG; have HS := HS_; clear HS_)
  clear c65 c64 c69 c75 fs cd
  have HM := mchC HS 0 rfl
  have c65 := (HM.2.1 65 (by decide)).trans (stL_ended HM.1)
  have c64 := (HM.2.1 64 (by decide)).trans (stL_pc HM.1)
  have c69 := HM.2.2.2.1
  have c75 := HM.2.2.2.2.2.2.2
  have fs := HM.2.2.1
  clear HM
  have cd := HS.cell 1 rfl
  have HG := Aside0.mk (guesses_calls (show X.n ≤ 1000000 by omega) HS)
  rw [hg] at HG
  go_upto_region 4 with (go_at_call 28; refine HG.out.mono ?_; rintro e w_ ⟨rfl, HS_⟩; clear HS HG; have HS := HS_; clear HS_)
  clear c65 c64 c69 c75 fs cd
  have HM := mchC HS 0 rfl
  have c65 := (HM.2.1 65 (by decide)).trans (stL_ended HM.1)
  have c64 := (HM.2.1 64 (by decide)).trans (stL_pc HM.1)
  have c69 := HM.2.2.2.1
  have c75 := HM.2.2.2.2.2.2.2
  have fs := HM.2.2.1
  clear HM
  have cd := HS.cell 1 rfl
  go_upto_region 7 with (fail)
  refine wp_sat (mchLeft HS (wrap64 (X.left - 1))) (fun w HS => ?_)
  clear c65 c64 c69 c75 fs cd
  have HS_ := HS
  clear HS
  have HS : Sat W0 w (mch g A n c (.slice (some ad) code.length cc) (.slice At sites.length ct) win Y :: blk gd 72 #[.int .i64 2, .int .i64 tq] :: L) := by rw [hY.out]; exact HS_
  clear HS_
  have HM := mchC HS 0 rfl
  have c65 := (HM.2.1 65 (by decide)).trans (stL_ended HM.1)
  have c64 := (HM.2.1 64 (by decide)).trans (stL_pc HM.1)
  have c69 := HM.2.2.2.1
  have c75 := HM.2.2.2.2.2.2.2
  have fs := HM.2.2.1
  clear HM
  have cd := HS.cell 1 rfl
  have h0b : decide (Y.s.pc < 0) = false := decide_eq_false (by omega)
  have h1b : decide ((code.length : Int) ≤ Y.s.pc) = false := decide_eq_false (by omega)
  have q0 := eq_true h0
  have q1 := eq_true h1
  go_quiet (fail)
  have HQ := HS
  clear HS
  have HS := HQ
  clear HQ
  (first | refine then_drawnN HS (fun w HS => ?_) | refine wp_drawnN HS (fun w HS => ?_))
  clear c65 c64 c69 c75 fs cd
  go_upto_region 9 with (fail)
  have HP := HS.addFact (φ := True) trivial
  clear HS
  have HS := HP
  clear HP
  refine start_ (n := 13) (S := fun w' => ∃ c', Sat W0 w' (c' :: mch g A n c (.slice (some ad) code.length cc) (.slice At sites.length ct) win Y :: blk gd 72 #[.int .i64 2, .int .i64 tq] :: L)) (ds := []) #[false, false, false, false, false, false, false, false, false, false, false, false, false] (by kernel_rfl) rfl rfl ⟨_, HS.drew⟩ (fun hHeld => ?_)
  replace HS := HS.drew
  generalize World.drew w = w at HS hHeld ⊢
  refine pure_ (i := 0) (N := some 62) (v := ?_) (a' := ?_) #[true, false, false, false, false, false, false, false, false, false, false, false, false] rfl rfl (by kernel_rfl) (fun _ _ _ h => h) (Or.inl ⟨by rfl, ?_⟩) ?_ ?_
  rotate_left
  · intro w'
    go_simp
    with_reducible rfl
  rotate_left
  · (try simp only [Act.put, List.setIfInBounds_toArray, List.set_cons_zero, List.set_cons_succ, i64_w, i32_w])
    rfl
  refine pure_ (i := 1) (N := some 63) (v := ?_) (a' := ?_) #[true, true, false, false, false, false, false, false, false, false, false, false, false] rfl rfl (by kernel_rfl) (fun _ _ _ h => h) (Or.inl ⟨by rfl, ?_⟩) ?_ ?_
  rotate_left
  · intro w'
    go_simp
    with_reducible rfl
  rotate_left
  · (try simp only [Act.put, List.setIfInBounds_toArray, List.set_cons_zero, List.set_cons_succ, i64_w, i32_w])
    rfl
  refine pure_ (i := 2) (N := some 64) (v := ?_) (a' := ?_) #[true, true, true, false, false, false, false, false, false, false, false, false, false] rfl rfl (by kernel_rfl) (fun _ _ _ h => h) (Or.inl ⟨by rfl, ?_⟩) ?_ ?_
  rotate_left
  · intro w'
    go_simp
    with_reducible rfl
  rotate_left
  · (try simp only [Act.put, List.setIfInBounds_toArray, List.set_cons_zero, List.set_cons_succ, i64_w, i32_w])
    rfl
  refine take_ (i := 3) (N := some 65) (v := ?_) (a' := ?_) #[true, true, true, true, false, false, false, false, false, false, false, false, false] rfl rfl (by kernel_rfl) (fun _ _ _ h => h) (Or.inl ⟨by rfl, ?_⟩) hHeld ?_ ?_
  rotate_left
  · rintro w' hS
    obtain ⟨c', hS⟩ := hS
    have HM := mchC hS 1 rfl
    have c64 := (HM.2.1 64 (by decide)).trans (stL_pc HM.1)
    have c69 := HM.2.2.2.1
    clear HM
    obtain ⟨ad2, e2, x0, x1, x2, x3, x4, x5⟩ := at_T56 (hC w' hS.tail.tail.tail) Y.s.pc h0 h1
    cases e2
    rw [hi] at x0 x1 x2 x3 x4 x5
    go_simp
    with_reducible rfl
  rotate_left
  · (try simp only [Act.put, List.setIfInBounds_toArray, List.set_cons_zero, List.set_cons_succ, i64_w, i32_w])
    rfl
  refine pure_ (i := 4) (N := some 66) (v := ?_) (a' := ?_) #[true, true, true, true, true, false, false, false, false, false, false, false, false] rfl rfl (by kernel_rfl) (fun _ _ _ h => h) (Or.inl ⟨by rfl, ?_⟩) ?_ ?_
  rotate_left
  · intro w'
    go_simp
    with_reducible rfl
  rotate_left
  · (try simp only [Act.put, List.setIfInBounds_toArray, List.set_cons_zero, List.set_cons_succ, i64_w, i32_w])
    rfl
  refine pure_ (i := 5) (N := some 67) (v := ?_) (a' := ?_) #[true, true, true, true, true, true, false, false, false, false, false, false, false] rfl rfl (by kernel_rfl) (fun _ _ _ h => h) (Or.inl ⟨by rfl, ?_⟩) ?_ ?_
  rotate_left
  · intro w'
    go_simp
    with_reducible rfl
  rotate_left
  · (try simp only [Act.put, List.setIfInBounds_toArray, List.set_cons_zero, List.set_cons_succ, i64_w, i32_w])
    rfl
  refine pure_ (i := 6) (N := some 68) (v := ?_) (a' := ?_) #[true, true, true, true, true, true, true, false, false, false, false, false, false] rfl rfl (by kernel_rfl) (fun _ _ _ h => h) (Or.inl ⟨by rfl, ?_⟩) ?_ ?_
  rotate_left
  · intro w'
    go_simp
    with_reducible rfl
  rotate_left
  · (try simp only [Act.put, List.setIfInBounds_toArray, List.set_cons_zero, List.set_cons_succ, i64_w, i32_w])
    rfl
  refine pure_ (i := 7) (N := some 69) (v := ?_) (a' := ?_) #[true, true, true, true, true, true, true, true, false, false, false, false, false] rfl rfl (by kernel_rfl) (fun _ _ _ h => h) (Or.inl ⟨by rfl, ?_⟩) ?_ ?_
  rotate_left
  · intro w'
    go_simp
    with_reducible rfl
  rotate_left
  · (try simp only [Act.put, List.setIfInBounds_toArray, List.set_cons_zero, List.set_cons_succ, i64_w, i32_w])
    rfl
  refine take_ (i := 8) (N := some 70) (v := ?_) (a' := ?_) #[true, true, true, true, true, true, true, true, true, false, false, false, false] rfl rfl (by kernel_rfl) (fun _ _ _ h => h) (Or.inl ⟨by rfl, ?_⟩) hHeld ?_ ?_
  rotate_left
  · rintro w' hS
    obtain ⟨c', hS⟩ := hS
    have HM := mchC hS 1 rfl
    have c64 := (HM.2.1 64 (by decide)).trans (stL_pc HM.1)
    have c69 := HM.2.2.2.1
    clear HM
    obtain ⟨ad2, e2, x0, x1, x2, x3, x4, x5⟩ := at_T56 (hC w' hS.tail.tail.tail) Y.s.pc h0 h1
    cases e2
    rw [hi] at x0 x1 x2 x3 x4 x5
    go_simp
    with_reducible rfl
  rotate_left
  · (try simp only [Act.put, List.setIfInBounds_toArray, List.set_cons_zero, List.set_cons_succ, i64_w, i32_w])
    rfl
  refine pure_ (i := 9) (N := some 71) (v := ?_) (a' := ?_) #[true, true, true, true, true, true, true, true, true, true, false, false, false] rfl rfl (by kernel_rfl) (fun _ _ _ h => h) (Or.inl ⟨by rfl, ?_⟩) ?_ ?_
  rotate_left
  · intro w'
    go_simp
    with_reducible rfl
  rotate_left
  · (try simp only [Act.put, List.setIfInBounds_toArray, List.set_cons_zero, List.set_cons_succ, i64_w, i32_w])
    rfl
  refine take_ (i := 10) (N := some 72) (v := ?_) (a' := ?_) #[true, true, true, true, true, true, true, true, true, true, true, false, false] rfl rfl (by kernel_rfl) (fun _ _ _ h => h) (Or.inl ⟨by rfl, ?_⟩) hHeld ?_ ?_
  rotate_left
  · rintro w' hS
    obtain ⟨c', hS⟩ := hS
    have HM := mchC hS 1 rfl
    have c64 := (HM.2.1 64 (by decide)).trans (stL_pc HM.1)
    have c69 := HM.2.2.2.1
    clear HM
    obtain ⟨ad2, e2, x0, x1, x2, x3, x4, x5⟩ := at_T56 (hC w' hS.tail.tail.tail) Y.s.pc h0 h1
    cases e2
    rw [hi] at x0 x1 x2 x3 x4 x5
    go_simp
    with_reducible rfl
  rotate_left
  · (try simp only [Act.put, List.setIfInBounds_toArray, List.set_cons_zero, List.set_cons_succ, i64_w, i32_w])
    rfl
  refine one_ (i := 11) (N := some 5) #[true, true, true, true, true, true, true, true, true, true, true, true, false] rfl rfl (by kernel_rfl) (by decide) (fun K hK => ?_)
  refine ev_box_step HS.tail (by rfl) (N := 5) rfl (cs := #[.int .i64 0, .int .i64 0, .int .i64 0, .int .i64 0, .int .i64 0, .int .i64 0]) (t := 56) ?hrun ?_
  (case hrun => first | (go_simp; done) | (go_simp; rfl))
  clear HS
  intro gi w HS
  refine hK.out _ _ ⟨_, HS⟩ (fun hHeld => ?_)
  clear hK K
  refine norm_ (a' := ?_) ?_ ?_
  rotate_left
  · show Act.put _ _ _ = _
    (try simp only [Act.put, List.setIfInBounds_toArray, List.set_cons_zero, List.set_cons_succ, i64_w, i32_w])
    rfl
  refine one_ (i := 12) (N := none) #[true, true, true, true, true, true, true, true, true, true, true, true, true] rfl rfl (by kernel_rfl) (by decide) (fun K hK => ?_)
  refine ev_store_step HS 0 rfl (by rfl) 56 (.tmp 5) (.tmp 72) rfl rfl rfl [.int .i64 4, .int .i64 i1, .int .i64 i2, .int .i64 i3, .int .i64 i4, .int .i64 i5] (by first | rfl | (go_simp; done)) (by kernel_rfl) (by rfl) (by simp [Value.oneCell']) ?_
  clear HS
  intro w HS
  refine hK.out _ _ ⟨_, HS⟩ (fun hHeld => ?_)
  clear hK K
  refine done_ (by kernel_rfl) ?_
  clear hHeld
  have HS_ : Sat W0 w (mch g A n c (.slice (some ad) code.length cc) (.slice At sites.length ct) win Y :: blk gi 56 #[.int .i64 4, .int .i64 i1, .int .i64 i2, .int .i64 i3, .int .i64 i4, .int .i64 i5] :: blk gd 72 #[.int .i64 2, .int .i64 tq] :: L) := HS.swap
  clear HS
  have HS := HS_
  clear HS_
  have ci := HS.cell 1 rfl
  have cd := HS.cell 2 rfl
  go_wp2_with (go_at_call 33; refine (stale_calls (fun w h => hC w h.tail.tail) hfit (show Y.n ≤ 800000 by omega) (show Y.buf.length ≤ 800000 by omega) HS).mono ?_; rintro e w_ ⟨v, rfl, HS_⟩; clear HS; have HS := HS_; clear HS_)
  go_ret
  exact ⟨_, rfl, (HS.erase 2).erase 2⟩

set_option maxRecDepth 100000 in
set_option maxHeartbeats 2000000 in
theorem do_G1_h1 {X : SM} {tq : Int} (hC : ∀ w, Sat W0 w L → Kd.C k56 w Ac code.length code) (hT : ∀ w, Sat W0 w L → Kd.C (Kd.int .i64) w At sites.length sites) (hfit : ∀ i ∈ code, Fit i) (hnt : sites.length ≤ 1000000) (hn : X.n ≤ 700000) (hb : X.buf.length ≤ 700000) (he : X.s.ended = true) (hg : X.saved.isSome = true) {Y : SM} (hY : Aside0 (Y = { X with left := wrap64 (X.left - 1) })) (hl : ¬ X.left = 0) (h0 : 0 ≤ Y.s.pc) (h1 : Y.s.pc < (code.length : Int)) {i0 i1 i2 i3 i4 i5 : Int} (hi : rd_T56 code Y.s.pc = ⟨i0, i1, i2, i3, i4, i5⟩) (hi10 : ¬ i0 = 10) (hi7 : ¬ i0 = 7) (hi9 : ¬ i0 = 9) (HS : Sat W0 w (mch g A n c (.slice Ac code.length cc) (.slice At sites.length ct) win X :: L)) :
    Calls Try.prog 22 #[.pointer (some ⟨g, 0, none⟩), .agg #[.int .i64 1, .int .i64 tq]] w fun e w' => ∃ v, e = .returned v ∧ Sat W0 w' (row k66 66 v (honestF code Y).2 :: mch g A n c (.slice Ac code.length cc) (.slice At sites.length ct) win (honestF code Y).1 :: L) := by
  obtain ⟨ad, rfl, _⟩ := at_T56 (hC w HS.tail) Y.s.pc h0 h1
  have hgY : Y.saved.isSome = true := by rw [hY.out]; exact hg
  have hYn : Y.n ≤ 700000 := by rw [hY.out]; exact hn
  have hYb : Y.buf.length ≤ 700000 := by rw [hY.out]; exact hb
  have l0 : (X.left == 0) = false := beq_eq_false_iff_ne.mpr hl
  go_enter Try.func22, Try.ntmps22
  go_upto_region 1 with ((with_reducible refine gate_dst (N := 3) rfl ?_); go_must (refine ev_box HS rfl (N := 3) rfl (cs := #[.int .i64 1, .int .i64 tq]) (t := 72) ?hrun ?_); (case hrun => first | (go_simp; done) | (go_simp; rfl)); clear HS; intro gd w HS)
  replace HS := HS.swap
  have HM := mchC HS 0 rfl
  have c65 := (HM.2.1 65 (by decide)).trans (stL_ended HM.1)
  have c64 := (HM.2.1 64 (by decide)).trans (stL_pc HM.1)
  have c69 := HM.2.2.2.1
  have c75 := HM.2.2.2.2.2.2.2
  have fs := HM.2.2.1
  clear HM
  have cd := HS.cell 1 rfl
  rw [he] at c65
  have HG := Aside0.mk (guesses_calls (show X.n ≤ 1000000 by omega) HS)
  rw [hg] at HG
  go_upto_region 3 with ((try (refine gate_guard (by rfl) ?_; dsimp only)); go_at_call 28; refine HG.out.mono ?_; rintro e w_ ⟨rfl, HS_⟩; clear HS HG; have HS := HS_; clear HS_)
  clear c65 c64 c69 c75 fs cd
  have HM := mchC HS 0 rfl
  have c65 := (HM.2.1 65 (by decide)).trans (stL_ended HM.1)
  have c64 := (HM.2.1 64 (by decide)).trans (stL_pc HM.1)
  have c69 := HM.2.2.2.1
  have c75 := HM.2.2.2.2.2.2.2
  have fs := HM.2.2.1
  clear HM
  have cd := HS.cell 1 rfl
  have HG := Aside0.mk (guesses_calls (show X.n ≤ 1000000 by omega) HS)
  rw [hg] at HG
  go_upto_region 4 with (go_at_call 28; refine HG.out.mono ?_; rintro e w_ ⟨rfl, HS_⟩; clear HS HG; have HS := HS_; clear HS_)
  clear c65 c64 c69 c75 fs cd
  have HM := mchC HS 0 rfl
  have c65 := (HM.2.1 65 (by decide)).trans (stL_ended HM.1)
  have c64 := (HM.2.1 64 (by decide)).trans (stL_pc HM.1)
  have c69 := HM.2.2.2.1
  have c75 := HM.2.2.2.2.2.2.2
  have fs := HM.2.2.1
  clear HM
  have cd := HS.cell 1 rfl
  go_upto_region 7 with (fail)
  refine wp_sat (mchLeft HS (wrap64 (X.left - 1))) (fun w HS => ?_)
  clear c65 c64 c69 c75 fs cd
  have HS_ := HS
  clear HS
  have HS : Sat W0 w (mch g A n c (.slice (some ad) code.length cc) (.slice At sites.length ct) win Y :: blk gd 72 #[.int .i64 1, .int .i64 tq] :: L) := by rw [hY.out]; exact HS_
  clear HS_
  have HM := mchC HS 0 rfl
  have c65 := (HM.2.1 65 (by decide)).trans (stL_ended HM.1)
  have c64 := (HM.2.1 64 (by decide)).trans (stL_pc HM.1)
  have c69 := HM.2.2.2.1
  have c75 := HM.2.2.2.2.2.2.2
  have fs := HM.2.2.1
  clear HM
  have cd := HS.cell 1 rfl
  have h0b : decide (Y.s.pc < 0) = false := decide_eq_false (by omega)
  have h1b : decide ((code.length : Int) ≤ Y.s.pc) = false := decide_eq_false (by omega)
  have q0 := eq_true h0
  have q1 := eq_true h1
  go_quiet (fail)
  have HQ := HS
  clear HS
  have HS := HQ
  clear HQ
  (first | refine then_drawnN HS (fun w HS => ?_) | refine wp_drawnN HS (fun w HS => ?_))
  clear c65 c64 c69 c75 fs cd
  go_upto_region 9 with (fail)
  have HP := HS.addFact (φ := True) trivial
  clear HS
  have HS := HP
  clear HP
  refine start_ (n := 13) (S := fun w' => ∃ c', Sat W0 w' (c' :: mch g A n c (.slice (some ad) code.length cc) (.slice At sites.length ct) win Y :: blk gd 72 #[.int .i64 1, .int .i64 tq] :: L)) (ds := []) #[false, false, false, false, false, false, false, false, false, false, false, false, false] (by kernel_rfl) rfl rfl ⟨_, HS.drew⟩ (fun hHeld => ?_)
  replace HS := HS.drew
  generalize World.drew w = w at HS hHeld ⊢
  refine pure_ (i := 0) (N := some 62) (v := ?_) (a' := ?_) #[true, false, false, false, false, false, false, false, false, false, false, false, false] rfl rfl (by kernel_rfl) (fun _ _ _ h => h) (Or.inl ⟨by rfl, ?_⟩) ?_ ?_
  rotate_left
  · intro w'
    go_simp
    with_reducible rfl
  rotate_left
  · (try simp only [Act.put, List.setIfInBounds_toArray, List.set_cons_zero, List.set_cons_succ, i64_w, i32_w])
    rfl
  refine pure_ (i := 1) (N := some 63) (v := ?_) (a' := ?_) #[true, true, false, false, false, false, false, false, false, false, false, false, false] rfl rfl (by kernel_rfl) (fun _ _ _ h => h) (Or.inl ⟨by rfl, ?_⟩) ?_ ?_
  rotate_left
  · intro w'
    go_simp
    with_reducible rfl
  rotate_left
  · (try simp only [Act.put, List.setIfInBounds_toArray, List.set_cons_zero, List.set_cons_succ, i64_w, i32_w])
    rfl
  refine pure_ (i := 2) (N := some 64) (v := ?_) (a' := ?_) #[true, true, true, false, false, false, false, false, false, false, false, false, false] rfl rfl (by kernel_rfl) (fun _ _ _ h => h) (Or.inl ⟨by rfl, ?_⟩) ?_ ?_
  rotate_left
  · intro w'
    go_simp
    with_reducible rfl
  rotate_left
  · (try simp only [Act.put, List.setIfInBounds_toArray, List.set_cons_zero, List.set_cons_succ, i64_w, i32_w])
    rfl
  refine take_ (i := 3) (N := some 65) (v := ?_) (a' := ?_) #[true, true, true, true, false, false, false, false, false, false, false, false, false] rfl rfl (by kernel_rfl) (fun _ _ _ h => h) (Or.inl ⟨by rfl, ?_⟩) hHeld ?_ ?_
  rotate_left
  · rintro w' hS
    obtain ⟨c', hS⟩ := hS
    have HM := mchC hS 1 rfl
    have c64 := (HM.2.1 64 (by decide)).trans (stL_pc HM.1)
    have c69 := HM.2.2.2.1
    clear HM
    obtain ⟨ad2, e2, x0, x1, x2, x3, x4, x5⟩ := at_T56 (hC w' hS.tail.tail.tail) Y.s.pc h0 h1
    cases e2
    rw [hi] at x0 x1 x2 x3 x4 x5
    go_simp
    with_reducible rfl
  rotate_left
  · (try simp only [Act.put, List.setIfInBounds_toArray, List.set_cons_zero, List.set_cons_succ, i64_w, i32_w])
    rfl
  refine pure_ (i := 4) (N := some 66) (v := ?_) (a' := ?_) #[true, true, true, true, true, false, false, false, false, false, false, false, false] rfl rfl (by kernel_rfl) (fun _ _ _ h => h) (Or.inl ⟨by rfl, ?_⟩) ?_ ?_
  rotate_left
  · intro w'
    go_simp
    with_reducible rfl
  rotate_left
  · (try simp only [Act.put, List.setIfInBounds_toArray, List.set_cons_zero, List.set_cons_succ, i64_w, i32_w])
    rfl
  refine pure_ (i := 5) (N := some 67) (v := ?_) (a' := ?_) #[true, true, true, true, true, true, false, false, false, false, false, false, false] rfl rfl (by kernel_rfl) (fun _ _ _ h => h) (Or.inl ⟨by rfl, ?_⟩) ?_ ?_
  rotate_left
  · intro w'
    go_simp
    with_reducible rfl
  rotate_left
  · (try simp only [Act.put, List.setIfInBounds_toArray, List.set_cons_zero, List.set_cons_succ, i64_w, i32_w])
    rfl
  refine pure_ (i := 6) (N := some 68) (v := ?_) (a' := ?_) #[true, true, true, true, true, true, true, false, false, false, false, false, false] rfl rfl (by kernel_rfl) (fun _ _ _ h => h) (Or.inl ⟨by rfl, ?_⟩) ?_ ?_
  rotate_left
  · intro w'
    go_simp
    with_reducible rfl
  rotate_left
  · (try simp only [Act.put, List.setIfInBounds_toArray, List.set_cons_zero, List.set_cons_succ, i64_w, i32_w])
    rfl
  refine pure_ (i := 7) (N := some 69) (v := ?_) (a' := ?_) #[true, true, true, true, true, true, true, true, false, false, false, false, false] rfl rfl (by kernel_rfl) (fun _ _ _ h => h) (Or.inl ⟨by rfl, ?_⟩) ?_ ?_
  rotate_left
  · intro w'
    go_simp
    with_reducible rfl
  rotate_left
  · (try simp only [Act.put, List.setIfInBounds_toArray, List.set_cons_zero, List.set_cons_succ, i64_w, i32_w])
    rfl
  refine take_ (i := 8) (N := some 70) (v := ?_) (a' := ?_) #[true, true, true, true, true, true, true, true, true, false, false, false, false] rfl rfl (by kernel_rfl) (fun _ _ _ h => h) (Or.inl ⟨by rfl, ?_⟩) hHeld ?_ ?_
  rotate_left
  · rintro w' hS
    obtain ⟨c', hS⟩ := hS
    have HM := mchC hS 1 rfl
    have c64 := (HM.2.1 64 (by decide)).trans (stL_pc HM.1)
    have c69 := HM.2.2.2.1
    clear HM
    obtain ⟨ad2, e2, x0, x1, x2, x3, x4, x5⟩ := at_T56 (hC w' hS.tail.tail.tail) Y.s.pc h0 h1
    cases e2
    rw [hi] at x0 x1 x2 x3 x4 x5
    go_simp
    with_reducible rfl
  rotate_left
  · (try simp only [Act.put, List.setIfInBounds_toArray, List.set_cons_zero, List.set_cons_succ, i64_w, i32_w])
    rfl
  refine pure_ (i := 9) (N := some 71) (v := ?_) (a' := ?_) #[true, true, true, true, true, true, true, true, true, true, false, false, false] rfl rfl (by kernel_rfl) (fun _ _ _ h => h) (Or.inl ⟨by rfl, ?_⟩) ?_ ?_
  rotate_left
  · intro w'
    go_simp
    with_reducible rfl
  rotate_left
  · (try simp only [Act.put, List.setIfInBounds_toArray, List.set_cons_zero, List.set_cons_succ, i64_w, i32_w])
    rfl
  refine take_ (i := 10) (N := some 72) (v := ?_) (a' := ?_) #[true, true, true, true, true, true, true, true, true, true, true, false, false] rfl rfl (by kernel_rfl) (fun _ _ _ h => h) (Or.inl ⟨by rfl, ?_⟩) hHeld ?_ ?_
  rotate_left
  · rintro w' hS
    obtain ⟨c', hS⟩ := hS
    have HM := mchC hS 1 rfl
    have c64 := (HM.2.1 64 (by decide)).trans (stL_pc HM.1)
    have c69 := HM.2.2.2.1
    clear HM
    obtain ⟨ad2, e2, x0, x1, x2, x3, x4, x5⟩ := at_T56 (hC w' hS.tail.tail.tail) Y.s.pc h0 h1
    cases e2
    rw [hi] at x0 x1 x2 x3 x4 x5
    go_simp
    with_reducible rfl
  rotate_left
  · (try simp only [Act.put, List.setIfInBounds_toArray, List.set_cons_zero, List.set_cons_succ, i64_w, i32_w])
    rfl
  refine one_ (i := 11) (N := some 5) #[true, true, true, true, true, true, true, true, true, true, true, true, false] rfl rfl (by kernel_rfl) (by decide) (fun K hK => ?_)
  refine ev_box_step HS.tail (by rfl) (N := 5) rfl (cs := #[.int .i64 0, .int .i64 0, .int .i64 0, .int .i64 0, .int .i64 0, .int .i64 0]) (t := 56) ?hrun ?_
  (case hrun => first | (go_simp; done) | (go_simp; rfl))
  clear HS
  intro gi w HS
  refine hK.out _ _ ⟨_, HS⟩ (fun hHeld => ?_)
  clear hK K
  refine norm_ (a' := ?_) ?_ ?_
  rotate_left
  · show Act.put _ _ _ = _
    (try simp only [Act.put, List.setIfInBounds_toArray, List.set_cons_zero, List.set_cons_succ, i64_w, i32_w])
    rfl
  refine one_ (i := 12) (N := none) #[true, true, true, true, true, true, true, true, true, true, true, true, true] rfl rfl (by kernel_rfl) (by decide) (fun K hK => ?_)
  refine ev_store_step HS 0 rfl (by rfl) 56 (.tmp 5) (.tmp 72) rfl rfl rfl [.int .i64 i0, .int .i64 i1, .int .i64 i2, .int .i64 i3, .int .i64 i4, .int .i64 i5] (by first | rfl | (go_simp; done)) (by kernel_rfl) (by rfl) (by simp [Value.oneCell']) ?_
  clear HS
  intro w HS
  refine hK.out _ _ ⟨_, HS⟩ (fun hHeld => ?_)
  clear hK K
  refine done_ (by kernel_rfl) ?_
  clear hHeld
  have HS_ : Sat W0 w (mch g A n c (.slice (some ad) code.length cc) (.slice At sites.length ct) win Y :: blk gi 56 #[.int .i64 i0, .int .i64 i1, .int .i64 i2, .int .i64 i3, .int .i64 i4, .int .i64 i5] :: blk gd 72 #[.int .i64 1, .int .i64 tq] :: L) := HS.swap
  clear HS
  have HS := HS_
  clear HS_
  have ci := HS.cell 1 rfl
  have cd := HS.cell 2 rfl
  have b10 : (i0 == 10) = false := beq_eq_false_iff_ne.mpr hi10
  have b7 : (i0 == 7) = false := beq_eq_false_iff_ne.mpr hi7
  have b9 : (i0 == 9) = false := beq_eq_false_iff_ne.mpr hi9
  go_wp2_with (go_at_call 30; refine (honest_calls (fun w h => hC w h.tail.tail) hfit (show Y.n ≤ 900000 by omega) (show Y.buf.length ≤ 900000 by omega) HS).mono ?_; rintro e w_ ⟨v, rfl, HS_⟩; clear HS; have HS := HS_; clear HS_)
  go_ret
  exact ⟨_, rfl, (HS.erase 2).erase 2⟩

set_option maxRecDepth 100000 in
set_option maxHeartbeats 2000000 in
theorem do_G1_h2 {X : SM} {tq : Int} (hC : ∀ w, Sat W0 w L → Kd.C k56 w Ac code.length code) (hT : ∀ w, Sat W0 w L → Kd.C (Kd.int .i64) w At sites.length sites) (hfit : ∀ i ∈ code, Fit i) (hnt : sites.length ≤ 1000000) (hn : X.n ≤ 700000) (hb : X.buf.length ≤ 700000) (he : X.s.ended = true) (hg : X.saved.isSome = true) {Y : SM} (hY : Aside0 (Y = { X with left := wrap64 (X.left - 1) })) (hl : ¬ X.left = 0) (h0 : 0 ≤ Y.s.pc) (h1 : Y.s.pc < (code.length : Int)) {i0 i1 i2 i3 i4 i5 : Int} (hi : rd_T56 code Y.s.pc = ⟨i0, i1, i2, i3, i4, i5⟩) (hi10 : ¬ i0 = 10) (hi4 : ¬ i0 = 4) (HS : Sat W0 w (mch g A n c (.slice Ac code.length cc) (.slice At sites.length ct) win X :: L)) :
    Calls Try.prog 22 #[.pointer (some ⟨g, 0, none⟩), .agg #[.int .i64 2, .int .i64 tq]] w fun e w' => ∃ v, e = .returned v ∧ Sat W0 w' (row k66 66 v (honestF code Y).2 :: mch g A n c (.slice Ac code.length cc) (.slice At sites.length ct) win (honestF code Y).1 :: L) := by
  obtain ⟨ad, rfl, _⟩ := at_T56 (hC w HS.tail) Y.s.pc h0 h1
  have hgY : Y.saved.isSome = true := by rw [hY.out]; exact hg
  have hYn : Y.n ≤ 700000 := by rw [hY.out]; exact hn
  have hYb : Y.buf.length ≤ 700000 := by rw [hY.out]; exact hb
  have l0 : (X.left == 0) = false := beq_eq_false_iff_ne.mpr hl
  go_enter Try.func22, Try.ntmps22
  go_upto_region 1 with ((with_reducible refine gate_dst (N := 3) rfl ?_); go_must (refine ev_box HS rfl (N := 3) rfl (cs := #[.int .i64 2, .int .i64 tq]) (t := 72) ?hrun ?_); (case hrun => first | (go_simp; done) | (go_simp; rfl)); clear HS; intro gd w HS)
  replace HS := HS.swap
  have HM := mchC HS 0 rfl
  have c65 := (HM.2.1 65 (by decide)).trans (stL_ended HM.1)
  have c64 := (HM.2.1 64 (by decide)).trans (stL_pc HM.1)
  have c69 := HM.2.2.2.1
  have c75 := HM.2.2.2.2.2.2.2
  have fs := HM.2.2.1
  clear HM
  have cd := HS.cell 1 rfl
  rw [he] at c65
  have HG := Aside0.mk (guesses_calls (show X.n ≤ 1000000 by omega) HS)
  rw [hg] at HG
  go_upto_region 3 with ((try (refine gate_guard (by rfl) ?_; dsimp only)); go_at_call 28; refine HG.out.mono ?_; rintro e w_ ⟨rfl, HS_⟩; clear HS HG; have HS := HS_; clear HS_)
  clear c65 c64 c69 c75 fs cd
  have HM := mchC HS 0 rfl
  have c65 := (HM.2.1 65 (by decide)).trans (stL_ended HM.1)
  have c64 := (HM.2.1 64 (by decide)).trans (stL_pc HM.1)
  have c69 := HM.2.2.2.1
  have c75 := HM.2.2.2.2.2.2.2
  have fs := HM.2.2.1
  clear HM
  have cd := HS.cell 1 rfl
  have HG := Aside0.mk (guesses_calls (show X.n ≤ 1000000 by omega) HS)
  rw [hg] at HG
  go_upto_region 4 with (go_at_call 28; refine HG.out.mono ?_; rintro e w_ ⟨rfl, HS_⟩; clear HS HG; have HS := HS_; clear HS_)
  clear c65 c64 c69 c75 fs cd
  have HM := mchC HS 0 rfl
  have c65 := (HM.2.1 65 (by decide)).trans (stL_ended HM.1)
  have c64 := (HM.2.1 64 (by decide)).trans (stL_pc HM.1)
  have c69 := HM.2.2.2.1
  have c75 := HM.2.2.2.2.2.2.2
  have fs := HM.2.2.1
  clear HM
  have cd := HS.cell 1 rfl
  go_upto_region 7 with (fail)
  refine wp_sat (mchLeft HS (wrap64 (X.left - 1))) (fun w HS => ?_)
  clear c65 c64 c69 c75 fs cd
  have HS_ := HS
  clear HS
  have HS : Sat W0 w (mch g A n c (.slice (some ad) code.length cc) (.slice At sites.length ct) win Y :: blk gd 72 #[.int .i64 2, .int .i64 tq] :: L) := by rw [hY.out]; exact HS_
  clear HS_
  have HM := mchC HS 0 rfl
  have c65 := (HM.2.1 65 (by decide)).trans (stL_ended HM.1)
  have c64 := (HM.2.1 64 (by decide)).trans (stL_pc HM.1)
  have c69 := HM.2.2.2.1
  have c75 := HM.2.2.2.2.2.2.2
  have fs := HM.2.2.1
  clear HM
  have cd := HS.cell 1 rfl
  have h0b : decide (Y.s.pc < 0) = false := decide_eq_false (by omega)
  have h1b : decide ((code.length : Int) ≤ Y.s.pc) = false := decide_eq_false (by omega)
  have q0 := eq_true h0
  have q1 := eq_true h1
  go_quiet (fail)
  have HQ := HS
  clear HS
  have HS := HQ
  clear HQ
  (first | refine then_drawnN HS (fun w HS => ?_) | refine wp_drawnN HS (fun w HS => ?_))
  clear c65 c64 c69 c75 fs cd
  go_upto_region 9 with (fail)
  have HP := HS.addFact (φ := True) trivial
  clear HS
  have HS := HP
  clear HP
  refine start_ (n := 13) (S := fun w' => ∃ c', Sat W0 w' (c' :: mch g A n c (.slice (some ad) code.length cc) (.slice At sites.length ct) win Y :: blk gd 72 #[.int .i64 2, .int .i64 tq] :: L)) (ds := []) #[false, false, false, false, false, false, false, false, false, false, false, false, false] (by kernel_rfl) rfl rfl ⟨_, HS.drew⟩ (fun hHeld => ?_)
  replace HS := HS.drew
  generalize World.drew w = w at HS hHeld ⊢
  refine pure_ (i := 0) (N := some 62) (v := ?_) (a' := ?_) #[true, false, false, false, false, false, false, false, false, false, false, false, false] rfl rfl (by kernel_rfl) (fun _ _ _ h => h) (Or.inl ⟨by rfl, ?_⟩) ?_ ?_
  rotate_left
  · intro w'
    go_simp
    with_reducible rfl
  rotate_left
  · (try simp only [Act.put, List.setIfInBounds_toArray, List.set_cons_zero, List.set_cons_succ, i64_w, i32_w])
    rfl
  refine pure_ (i := 1) (N := some 63) (v := ?_) (a' := ?_) #[true, true, false, false, false, false, false, false, false, false, false, false, false] rfl rfl (by kernel_rfl) (fun _ _ _ h => h) (Or.inl ⟨by rfl, ?_⟩) ?_ ?_
  rotate_left
  · intro w'
    go_simp
    with_reducible rfl
  rotate_left
  · (try simp only [Act.put, List.setIfInBounds_toArray, List.set_cons_zero, List.set_cons_succ, i64_w, i32_w])
    rfl
  refine pure_ (i := 2) (N := some 64) (v := ?_) (a' := ?_) #[true, true, true, false, false, false, false, false, false, false, false, false, false] rfl rfl (by kernel_rfl) (fun _ _ _ h => h) (Or.inl ⟨by rfl, ?_⟩) ?_ ?_
  rotate_left
  · intro w'
    go_simp
    with_reducible rfl
  rotate_left
  · (try simp only [Act.put, List.setIfInBounds_toArray, List.set_cons_zero, List.set_cons_succ, i64_w, i32_w])
    rfl
  refine take_ (i := 3) (N := some 65) (v := ?_) (a' := ?_) #[true, true, true, true, false, false, false, false, false, false, false, false, false] rfl rfl (by kernel_rfl) (fun _ _ _ h => h) (Or.inl ⟨by rfl, ?_⟩) hHeld ?_ ?_
  rotate_left
  · rintro w' hS
    obtain ⟨c', hS⟩ := hS
    have HM := mchC hS 1 rfl
    have c64 := (HM.2.1 64 (by decide)).trans (stL_pc HM.1)
    have c69 := HM.2.2.2.1
    clear HM
    obtain ⟨ad2, e2, x0, x1, x2, x3, x4, x5⟩ := at_T56 (hC w' hS.tail.tail.tail) Y.s.pc h0 h1
    cases e2
    rw [hi] at x0 x1 x2 x3 x4 x5
    go_simp
    with_reducible rfl
  rotate_left
  · (try simp only [Act.put, List.setIfInBounds_toArray, List.set_cons_zero, List.set_cons_succ, i64_w, i32_w])
    rfl
  refine pure_ (i := 4) (N := some 66) (v := ?_) (a' := ?_) #[true, true, true, true, true, false, false, false, false, false, false, false, false] rfl rfl (by kernel_rfl) (fun _ _ _ h => h) (Or.inl ⟨by rfl, ?_⟩) ?_ ?_
  rotate_left
  · intro w'
    go_simp
    with_reducible rfl
  rotate_left
  · (try simp only [Act.put, List.setIfInBounds_toArray, List.set_cons_zero, List.set_cons_succ, i64_w, i32_w])
    rfl
  refine pure_ (i := 5) (N := some 67) (v := ?_) (a' := ?_) #[true, true, true, true, true, true, false, false, false, false, false, false, false] rfl rfl (by kernel_rfl) (fun _ _ _ h => h) (Or.inl ⟨by rfl, ?_⟩) ?_ ?_
  rotate_left
  · intro w'
    go_simp
    with_reducible rfl
  rotate_left
  · (try simp only [Act.put, List.setIfInBounds_toArray, List.set_cons_zero, List.set_cons_succ, i64_w, i32_w])
    rfl
  refine pure_ (i := 6) (N := some 68) (v := ?_) (a' := ?_) #[true, true, true, true, true, true, true, false, false, false, false, false, false] rfl rfl (by kernel_rfl) (fun _ _ _ h => h) (Or.inl ⟨by rfl, ?_⟩) ?_ ?_
  rotate_left
  · intro w'
    go_simp
    with_reducible rfl
  rotate_left
  · (try simp only [Act.put, List.setIfInBounds_toArray, List.set_cons_zero, List.set_cons_succ, i64_w, i32_w])
    rfl
  refine pure_ (i := 7) (N := some 69) (v := ?_) (a' := ?_) #[true, true, true, true, true, true, true, true, false, false, false, false, false] rfl rfl (by kernel_rfl) (fun _ _ _ h => h) (Or.inl ⟨by rfl, ?_⟩) ?_ ?_
  rotate_left
  · intro w'
    go_simp
    with_reducible rfl
  rotate_left
  · (try simp only [Act.put, List.setIfInBounds_toArray, List.set_cons_zero, List.set_cons_succ, i64_w, i32_w])
    rfl
  refine take_ (i := 8) (N := some 70) (v := ?_) (a' := ?_) #[true, true, true, true, true, true, true, true, true, false, false, false, false] rfl rfl (by kernel_rfl) (fun _ _ _ h => h) (Or.inl ⟨by rfl, ?_⟩) hHeld ?_ ?_
  rotate_left
  · rintro w' hS
    obtain ⟨c', hS⟩ := hS
    have HM := mchC hS 1 rfl
    have c64 := (HM.2.1 64 (by decide)).trans (stL_pc HM.1)
    have c69 := HM.2.2.2.1
    clear HM
    obtain ⟨ad2, e2, x0, x1, x2, x3, x4, x5⟩ := at_T56 (hC w' hS.tail.tail.tail) Y.s.pc h0 h1
    cases e2
    rw [hi] at x0 x1 x2 x3 x4 x5
    go_simp
    with_reducible rfl
  rotate_left
  · (try simp only [Act.put, List.setIfInBounds_toArray, List.set_cons_zero, List.set_cons_succ, i64_w, i32_w])
    rfl
  refine pure_ (i := 9) (N := some 71) (v := ?_) (a' := ?_) #[true, true, true, true, true, true, true, true, true, true, false, false, false] rfl rfl (by kernel_rfl) (fun _ _ _ h => h) (Or.inl ⟨by rfl, ?_⟩) ?_ ?_
  rotate_left
  · intro w'
    go_simp
    with_reducible rfl
  rotate_left
  · (try simp only [Act.put, List.setIfInBounds_toArray, List.set_cons_zero, List.set_cons_succ, i64_w, i32_w])
    rfl
  refine take_ (i := 10) (N := some 72) (v := ?_) (a' := ?_) #[true, true, true, true, true, true, true, true, true, true, true, false, false] rfl rfl (by kernel_rfl) (fun _ _ _ h => h) (Or.inl ⟨by rfl, ?_⟩) hHeld ?_ ?_
  rotate_left
  · rintro w' hS
    obtain ⟨c', hS⟩ := hS
    have HM := mchC hS 1 rfl
    have c64 := (HM.2.1 64 (by decide)).trans (stL_pc HM.1)
    have c69 := HM.2.2.2.1
    clear HM
    obtain ⟨ad2, e2, x0, x1, x2, x3, x4, x5⟩ := at_T56 (hC w' hS.tail.tail.tail) Y.s.pc h0 h1
    cases e2
    rw [hi] at x0 x1 x2 x3 x4 x5
    go_simp
    with_reducible rfl
  rotate_left
  · (try simp only [Act.put, List.setIfInBounds_toArray, List.set_cons_zero, List.set_cons_succ, i64_w, i32_w])
    rfl
  refine one_ (i := 11) (N := some 5) #[true, true, true, true, true, true, true, true, true, true, true, true, false] rfl rfl (by kernel_rfl) (by decide) (fun K hK => ?_)
  refine ev_box_step HS.tail (by rfl) (N := 5) rfl (cs := #[.int .i64 0, .int .i64 0, .int .i64 0, .int .i64 0, .int .i64 0, .int .i64 0]) (t := 56) ?hrun ?_
  (case hrun => first | (go_simp; done) | (go_simp; rfl))
  clear HS
  intro gi w HS
  refine hK.out _ _ ⟨_, HS⟩ (fun hHeld => ?_)
  clear hK K
  refine norm_ (a' := ?_) ?_ ?_
  rotate_left
  · show Act.put _ _ _ = _
    (try simp only [Act.put, List.setIfInBounds_toArray, List.set_cons_zero, List.set_cons_succ, i64_w, i32_w])
    rfl
  refine one_ (i := 12) (N := none) #[true, true, true, true, true, true, true, true, true, true, true, true, true] rfl rfl (by kernel_rfl) (by decide) (fun K hK => ?_)
  refine ev_store_step HS 0 rfl (by rfl) 56 (.tmp 5) (.tmp 72) rfl rfl rfl [.int .i64 i0, .int .i64 i1, .int .i64 i2, .int .i64 i3, .int .i64 i4, .int .i64 i5] (by first | rfl | (go_simp; done)) (by kernel_rfl) (by rfl) (by simp [Value.oneCell']) ?_
  clear HS
  intro w HS
  refine hK.out _ _ ⟨_, HS⟩ (fun hHeld => ?_)
  clear hK K
  refine done_ (by kernel_rfl) ?_
  clear hHeld
  have HS_ : Sat W0 w (mch g A n c (.slice (some ad) code.length cc) (.slice At sites.length ct) win Y :: blk gi 56 #[.int .i64 i0, .int .i64 i1, .int .i64 i2, .int .i64 i3, .int .i64 i4, .int .i64 i5] :: blk gd 72 #[.int .i64 2, .int .i64 tq] :: L) := HS.swap
  clear HS
  have HS := HS_
  clear HS_
  have ci := HS.cell 1 rfl
  have cd := HS.cell 2 rfl
  have b10 : (i0 == 10) = false := beq_eq_false_iff_ne.mpr hi10
  have b4 : (i0 == 4) = false := beq_eq_false_iff_ne.mpr hi4
  go_wp2_with (go_at_call 30; refine (honest_calls (fun w h => hC w h.tail.tail) hfit (show Y.n ≤ 900000 by omega) (show Y.buf.length ≤ 900000 by omega) HS).mono ?_; rintro e w_ ⟨v, rfl, HS_⟩; clear HS; have HS := HS_; clear HS_)
  go_ret
  exact ⟨_, rfl, (HS.erase 2).erase 2⟩

set_option maxRecDepth 100000 in
set_option maxHeartbeats 2000000 in
theorem do_G1_h3 {X : SM} {deed tq : Int} (hC : ∀ w, Sat W0 w L → Kd.C k56 w Ac code.length code) (hT : ∀ w, Sat W0 w L → Kd.C (Kd.int .i64) w At sites.length sites) (hfit : ∀ i ∈ code, Fit i) (hnt : sites.length ≤ 1000000) (hn : X.n ≤ 700000) (hb : X.buf.length ≤ 700000) (he : X.s.ended = true) (hg : X.saved.isSome = true) {Y : SM} (hY : Aside0 (Y = { X with left := wrap64 (X.left - 1) })) (hd3 : ¬ deed = 3) (hl : ¬ X.left = 0) (h0 : 0 ≤ Y.s.pc) (h1 : Y.s.pc < (code.length : Int)) {i0 i1 i2 i3 i4 i5 : Int} (hi : rd_T56 code Y.s.pc = ⟨i0, i1, i2, i3, i4, i5⟩) (hi10 : ¬ i0 = 10) (hd1 : ¬ deed = 1) (hd2 : ¬ deed = 2) (HS : Sat W0 w (mch g A n c (.slice Ac code.length cc) (.slice At sites.length ct) win X :: L)) :
    Calls Try.prog 22 #[.pointer (some ⟨g, 0, none⟩), .agg #[.int .i64 deed, .int .i64 tq]] w fun e w' => ∃ v, e = .returned v ∧ Sat W0 w' (row k66 66 v (honestF code Y).2 :: mch g A n c (.slice Ac code.length cc) (.slice At sites.length ct) win (honestF code Y).1 :: L) := by
  obtain ⟨ad, rfl, _⟩ := at_T56 (hC w HS.tail) Y.s.pc h0 h1
  have hgY : Y.saved.isSome = true := by rw [hY.out]; exact hg
  have hYn : Y.n ≤ 700000 := by rw [hY.out]; exact hn
  have hYb : Y.buf.length ≤ 700000 := by rw [hY.out]; exact hb
  have d3 : (deed == 3) = false := beq_eq_false_iff_ne.mpr hd3
  have l0 : (X.left == 0) = false := beq_eq_false_iff_ne.mpr hl
  go_enter Try.func22, Try.ntmps22
  go_upto_region 1 with ((with_reducible refine gate_dst (N := 3) rfl ?_); go_must (refine ev_box HS rfl (N := 3) rfl (cs := #[.int .i64 deed, .int .i64 tq]) (t := 72) ?hrun ?_); (case hrun => first | (go_simp; done) | (go_simp; rfl)); clear HS; intro gd w HS)
  replace HS := HS.swap
  have HM := mchC HS 0 rfl
  have c65 := (HM.2.1 65 (by decide)).trans (stL_ended HM.1)
  have c64 := (HM.2.1 64 (by decide)).trans (stL_pc HM.1)
  have c69 := HM.2.2.2.1
  have c75 := HM.2.2.2.2.2.2.2
  have fs := HM.2.2.1
  clear HM
  have cd := HS.cell 1 rfl
  rw [he] at c65
  have HG := Aside0.mk (guesses_calls (show X.n ≤ 1000000 by omega) HS)
  rw [hg] at HG
  go_upto_region 3 with ((try (refine gate_guard (by rfl) ?_; dsimp only)); go_at_call 28; refine HG.out.mono ?_; rintro e w_ ⟨rfl, HS_⟩; clear HS HG; have HS := HS_; clear HS_)
  clear c65 c64 c69 c75 fs cd
  have HM := mchC HS 0 rfl
  have c65 := (HM.2.1 65 (by decide)).trans (stL_ended HM.1)
  have c64 := (HM.2.1 64 (by decide)).trans (stL_pc HM.1)
  have c69 := HM.2.2.2.1
  have c75 := HM.2.2.2.2.2.2.2
  have fs := HM.2.2.1
  clear HM
  have cd := HS.cell 1 rfl
  have HG := Aside0.mk (guesses_calls (show X.n ≤ 1000000 by omega) HS)
  rw [hg] at HG
  go_upto_region 4 with (go_at_call 28; refine HG.out.mono ?_; rintro e w_ ⟨rfl, HS_⟩; clear HS HG; have HS := HS_; clear HS_)
  clear c65 c64 c69 c75 fs cd
  have HM := mchC HS 0 rfl
  have c65 := (HM.2.1 65 (by decide)).trans (stL_ended HM.1)
  have c64 := (HM.2.1 64 (by decide)).trans (stL_pc HM.1)
  have c69 := HM.2.2.2.1
  have c75 := HM.2.2.2.2.2.2.2
  have fs := HM.2.2.1
  clear HM
  have cd := HS.cell 1 rfl
  go_upto_region 7 with (fail)
  refine wp_sat (mchLeft HS (wrap64 (X.left - 1))) (fun w HS => ?_)
  clear c65 c64 c69 c75 fs cd
  have HS_ := HS
  clear HS
  have HS : Sat W0 w (mch g A n c (.slice (some ad) code.length cc) (.slice At sites.length ct) win Y :: blk gd 72 #[.int .i64 deed, .int .i64 tq] :: L) := by rw [hY.out]; exact HS_
  clear HS_
  have HM := mchC HS 0 rfl
  have c65 := (HM.2.1 65 (by decide)).trans (stL_ended HM.1)
  have c64 := (HM.2.1 64 (by decide)).trans (stL_pc HM.1)
  have c69 := HM.2.2.2.1
  have c75 := HM.2.2.2.2.2.2.2
  have fs := HM.2.2.1
  clear HM
  have cd := HS.cell 1 rfl
  have h0b : decide (Y.s.pc < 0) = false := decide_eq_false (by omega)
  have h1b : decide ((code.length : Int) ≤ Y.s.pc) = false := decide_eq_false (by omega)
  have q0 := eq_true h0
  have q1 := eq_true h1
  go_quiet (fail)
  have HQ := HS
  clear HS
  have HS := HQ
  clear HQ
  (first | refine then_drawnN HS (fun w HS => ?_) | refine wp_drawnN HS (fun w HS => ?_))
  clear c65 c64 c69 c75 fs cd
  go_upto_region 9 with (fail)
  have HP := HS.addFact (φ := True) trivial
  clear HS
  have HS := HP
  clear HP
  refine start_ (n := 13) (S := fun w' => ∃ c', Sat W0 w' (c' :: mch g A n c (.slice (some ad) code.length cc) (.slice At sites.length ct) win Y :: blk gd 72 #[.int .i64 deed, .int .i64 tq] :: L)) (ds := []) #[false, false, false, false, false, false, false, false, false, false, false, false, false] (by kernel_rfl) rfl rfl ⟨_, HS.drew⟩ (fun hHeld => ?_)
  replace HS := HS.drew
  generalize World.drew w = w at HS hHeld ⊢
  refine pure_ (i := 0) (N := some 62) (v := ?_) (a' := ?_) #[true, false, false, false, false, false, false, false, false, false, false, false, false] rfl rfl (by kernel_rfl) (fun _ _ _ h => h) (Or.inl ⟨by rfl, ?_⟩) ?_ ?_
  rotate_left
  · intro w'
    go_simp
    with_reducible rfl
  rotate_left
  · (try simp only [Act.put, List.setIfInBounds_toArray, List.set_cons_zero, List.set_cons_succ, i64_w, i32_w])
    rfl
  refine pure_ (i := 1) (N := some 63) (v := ?_) (a' := ?_) #[true, true, false, false, false, false, false, false, false, false, false, false, false] rfl rfl (by kernel_rfl) (fun _ _ _ h => h) (Or.inl ⟨by rfl, ?_⟩) ?_ ?_
  rotate_left
  · intro w'
    go_simp
    with_reducible rfl
  rotate_left
  · (try simp only [Act.put, List.setIfInBounds_toArray, List.set_cons_zero, List.set_cons_succ, i64_w, i32_w])
    rfl
  refine pure_ (i := 2) (N := some 64) (v := ?_) (a' := ?_) #[true, true, true, false, false, false, false, false, false, false, false, false, false] rfl rfl (by kernel_rfl) (fun _ _ _ h => h) (Or.inl ⟨by rfl, ?_⟩) ?_ ?_
  rotate_left
  · intro w'
    go_simp
    with_reducible rfl
  rotate_left
  · (try simp only [Act.put, List.setIfInBounds_toArray, List.set_cons_zero, List.set_cons_succ, i64_w, i32_w])
    rfl
  refine take_ (i := 3) (N := some 65) (v := ?_) (a' := ?_) #[true, true, true, true, false, false, false, false, false, false, false, false, false] rfl rfl (by kernel_rfl) (fun _ _ _ h => h) (Or.inl ⟨by rfl, ?_⟩) hHeld ?_ ?_
  rotate_left
  · rintro w' hS
    obtain ⟨c', hS⟩ := hS
    have HM := mchC hS 1 rfl
    have c64 := (HM.2.1 64 (by decide)).trans (stL_pc HM.1)
    have c69 := HM.2.2.2.1
    clear HM
    obtain ⟨ad2, e2, x0, x1, x2, x3, x4, x5⟩ := at_T56 (hC w' hS.tail.tail.tail) Y.s.pc h0 h1
    cases e2
    rw [hi] at x0 x1 x2 x3 x4 x5
    go_simp
    with_reducible rfl
  rotate_left
  · (try simp only [Act.put, List.setIfInBounds_toArray, List.set_cons_zero, List.set_cons_succ, i64_w, i32_w])
    rfl
  refine pure_ (i := 4) (N := some 66) (v := ?_) (a' := ?_) #[true, true, true, true, true, false, false, false, false, false, false, false, false] rfl rfl (by kernel_rfl) (fun _ _ _ h => h) (Or.inl ⟨by rfl, ?_⟩) ?_ ?_
  rotate_left
  · intro w'
    go_simp
    with_reducible rfl
  rotate_left
  · (try simp only [Act.put, List.setIfInBounds_toArray, List.set_cons_zero, List.set_cons_succ, i64_w, i32_w])
    rfl
  refine pure_ (i := 5) (N := some 67) (v := ?_) (a' := ?_) #[true, true, true, true, true, true, false, false, false, false, false, false, false] rfl rfl (by kernel_rfl) (fun _ _ _ h => h) (Or.inl ⟨by rfl, ?_⟩) ?_ ?_
  rotate_left
  · intro w'
    go_simp
    with_reducible rfl
  rotate_left
  · (try simp only [Act.put, List.setIfInBounds_toArray, List.set_cons_zero, List.set_cons_succ, i64_w, i32_w])
    rfl
  refine pure_ (i := 6) (N := some 68) (v := ?_) (a' := ?_) #[true, true, true, true, true, true, true, false, false, false, false, false, false] rfl rfl (by kernel_rfl) (fun _ _ _ h => h) (Or.inl ⟨by rfl, ?_⟩) ?_ ?_
  rotate_left
  · intro w'
    go_simp
    with_reducible rfl
  rotate_left
  · (try simp only [Act.put, List.setIfInBounds_toArray, List.set_cons_zero, List.set_cons_succ, i64_w, i32_w])
    rfl
  refine pure_ (i := 7) (N := some 69) (v := ?_) (a' := ?_) #[true, true, true, true, true, true, true, true, false, false, false, false, false] rfl rfl (by kernel_rfl) (fun _ _ _ h => h) (Or.inl ⟨by rfl, ?_⟩) ?_ ?_
  rotate_left
  · intro w'
    go_simp
    with_reducible rfl
  rotate_left
  · (try simp only [Act.put, List.setIfInBounds_toArray, List.set_cons_zero, List.set_cons_succ, i64_w, i32_w])
    rfl
  refine take_ (i := 8) (N := some 70) (v := ?_) (a' := ?_) #[true, true, true, true, true, true, true, true, true, false, false, false, false] rfl rfl (by kernel_rfl) (fun _ _ _ h => h) (Or.inl ⟨by rfl, ?_⟩) hHeld ?_ ?_
  rotate_left
  · rintro w' hS
    obtain ⟨c', hS⟩ := hS
    have HM := mchC hS 1 rfl
    have c64 := (HM.2.1 64 (by decide)).trans (stL_pc HM.1)
    have c69 := HM.2.2.2.1
    clear HM
    obtain ⟨ad2, e2, x0, x1, x2, x3, x4, x5⟩ := at_T56 (hC w' hS.tail.tail.tail) Y.s.pc h0 h1
    cases e2
    rw [hi] at x0 x1 x2 x3 x4 x5
    go_simp
    with_reducible rfl
  rotate_left
  · (try simp only [Act.put, List.setIfInBounds_toArray, List.set_cons_zero, List.set_cons_succ, i64_w, i32_w])
    rfl
  refine pure_ (i := 9) (N := some 71) (v := ?_) (a' := ?_) #[true, true, true, true, true, true, true, true, true, true, false, false, false] rfl rfl (by kernel_rfl) (fun _ _ _ h => h) (Or.inl ⟨by rfl, ?_⟩) ?_ ?_
  rotate_left
  · intro w'
    go_simp
    with_reducible rfl
  rotate_left
  · (try simp only [Act.put, List.setIfInBounds_toArray, List.set_cons_zero, List.set_cons_succ, i64_w, i32_w])
    rfl
  refine take_ (i := 10) (N := some 72) (v := ?_) (a' := ?_) #[true, true, true, true, true, true, true, true, true, true, true, false, false] rfl rfl (by kernel_rfl) (fun _ _ _ h => h) (Or.inl ⟨by rfl, ?_⟩) hHeld ?_ ?_
  rotate_left
  · rintro w' hS
    obtain ⟨c', hS⟩ := hS
    have HM := mchC hS 1 rfl
    have c64 := (HM.2.1 64 (by decide)).trans (stL_pc HM.1)
    have c69 := HM.2.2.2.1
    clear HM
    obtain ⟨ad2, e2, x0, x1, x2, x3, x4, x5⟩ := at_T56 (hC w' hS.tail.tail.tail) Y.s.pc h0 h1
    cases e2
    rw [hi] at x0 x1 x2 x3 x4 x5
    go_simp
    with_reducible rfl
  rotate_left
  · (try simp only [Act.put, List.setIfInBounds_toArray, List.set_cons_zero, List.set_cons_succ, i64_w, i32_w])
    rfl
  refine one_ (i := 11) (N := some 5) #[true, true, true, true, true, true, true, true, true, true, true, true, false] rfl rfl (by kernel_rfl) (by decide) (fun K hK => ?_)
  refine ev_box_step HS.tail (by rfl) (N := 5) rfl (cs := #[.int .i64 0, .int .i64 0, .int .i64 0, .int .i64 0, .int .i64 0, .int .i64 0]) (t := 56) ?hrun ?_
  (case hrun => first | (go_simp; done) | (go_simp; rfl))
  clear HS
  intro gi w HS
  refine hK.out _ _ ⟨_, HS⟩ (fun hHeld => ?_)
  clear hK K
  refine norm_ (a' := ?_) ?_ ?_
  rotate_left
  · show Act.put _ _ _ = _
    (try simp only [Act.put, List.setIfInBounds_toArray, List.set_cons_zero, List.set_cons_succ, i64_w, i32_w])
    rfl
  refine one_ (i := 12) (N := none) #[true, true, true, true, true, true, true, true, true, true, true, true, true] rfl rfl (by kernel_rfl) (by decide) (fun K hK => ?_)
  refine ev_store_step HS 0 rfl (by rfl) 56 (.tmp 5) (.tmp 72) rfl rfl rfl [.int .i64 i0, .int .i64 i1, .int .i64 i2, .int .i64 i3, .int .i64 i4, .int .i64 i5] (by first | rfl | (go_simp; done)) (by kernel_rfl) (by rfl) (by simp [Value.oneCell']) ?_
  clear HS
  intro w HS
  refine hK.out _ _ ⟨_, HS⟩ (fun hHeld => ?_)
  clear hK K
  refine done_ (by kernel_rfl) ?_
  clear hHeld
  have HS_ : Sat W0 w (mch g A n c (.slice (some ad) code.length cc) (.slice At sites.length ct) win Y :: blk gi 56 #[.int .i64 i0, .int .i64 i1, .int .i64 i2, .int .i64 i3, .int .i64 i4, .int .i64 i5] :: blk gd 72 #[.int .i64 deed, .int .i64 tq] :: L) := HS.swap
  clear HS
  have HS := HS_
  clear HS_
  have ci := HS.cell 1 rfl
  have cd := HS.cell 2 rfl
  have b10 : (i0 == 10) = false := beq_eq_false_iff_ne.mpr hi10
  have d1 : (deed == 1) = false := beq_eq_false_iff_ne.mpr hd1
  have d2 : (deed == 2) = false := beq_eq_false_iff_ne.mpr hd2
  go_wp2_with (go_at_call 30; refine (honest_calls (fun w h => hC w h.tail.tail) hfit (show Y.n ≤ 900000 by omega) (show Y.buf.length ≤ 900000 by omega) HS).mono ?_; rintro e w_ ⟨v, rfl, HS_⟩; clear HS; have HS := HS_; clear HS_)
  go_ret
  exact ⟨_, rfl, (HS.erase 2).erase 2⟩

set_option maxRecDepth 100000 in
set_option maxHeartbeats 2000000 in
theorem do_G1_d3 {X : SM} {tq : Int} (hC : ∀ w, Sat W0 w L → Kd.C k56 w Ac code.length code) (hT : ∀ w, Sat W0 w L → Kd.C (Kd.int .i64) w At sites.length sites) (hfit : ∀ i ∈ code, Fit i) (hnt : sites.length ≤ 1000000) (hn : X.n ≤ 700000) (hb : X.buf.length ≤ 700000) (he : X.s.ended = true) (hg : X.saved.isSome = true) (HS : Sat W0 w (mch g A n c (.slice Ac code.length cc) (.slice At sites.length ct) win X :: L)) :
    Calls Try.prog 22 #[.pointer (some ⟨g, 0, none⟩), .agg #[.int .i64 3, .int .i64 tq]] w fun e w' => ∃ v, e = .returned v ∧ Sat W0 w' (row k66 66 v [⟨6, 0, 0⟩] :: mch g A n c (.slice Ac code.length cc) (.slice At sites.length ct) win (backF X) :: L) := by
  obtain ⟨p, hp⟩ := Option.isSome_iff_exists.1 hg
  have HP := Aside0.mk hp
  clear hp
  go_enter Try.func22, Try.ntmps22
  go_upto_region 1 with ((with_reducible refine gate_dst (N := 3) rfl ?_); go_must (refine ev_box HS rfl (N := 3) rfl (cs := #[.int .i64 3, .int .i64 tq]) (t := 72) ?hrun ?_); (case hrun => first | (go_simp; done) | (go_simp; rfl)); clear HS; intro gd w HS)
  replace HS := HS.swap
  have HM := mchC HS 0 rfl
  have c65 := (HM.2.1 65 (by decide)).trans (stL_ended HM.1)
  have c64 := (HM.2.1 64 (by decide)).trans (stL_pc HM.1)
  have c69 := HM.2.2.2.1
  have c75 := HM.2.2.2.2.2.2.2
  have fs := HM.2.2.1
  clear HM
  have cd := HS.cell 1 rfl
  rw [he] at c65
  have HG := Aside0.mk (guesses_calls (show X.n ≤ 1000000 by omega) HS)
  rw [hg] at HG
  go_upto_region 3 with ((try (refine gate_guard (by rfl) ?_; dsimp only)); go_at_call 28; refine HG.out.mono ?_; rintro e w_ ⟨rfl, HS_⟩; clear HS HG; have HS := HS_; clear HS_)
  clear c65 c64 c69 c75 fs cd
  have HM := mchC HS 0 rfl
  have c65 := (HM.2.1 65 (by decide)).trans (stL_ended HM.1)
  have c64 := (HM.2.1 64 (by decide)).trans (stL_pc HM.1)
  have c69 := HM.2.2.2.1
  have c75 := HM.2.2.2.2.2.2.2
  have fs := HM.2.2.1
  clear HM
  have cd := HS.cell 1 rfl
  have HG := Aside0.mk (guesses_calls (show X.n ≤ 1000000 by omega) HS)
  rw [hg] at HG
  go_upto_region 4 with (go_at_call 28; refine HG.out.mono ?_; rintro e w_ ⟨rfl, HS_⟩; clear HS HG; have HS := HS_; clear HS_)
  clear c65 c64 c69 c75 fs cd
  have HM := mchC HS 0 rfl
  have c65 := (HM.2.1 65 (by decide)).trans (stL_ended HM.1)
  have c64 := (HM.2.1 64 (by decide)).trans (stL_pc HM.1)
  have c69 := HM.2.2.2.1
  have c75 := HM.2.2.2.2.2.2.2
  have fs := HM.2.2.1
  clear HM
  have cd := HS.cell 1 rfl
  go_wp2_with (go_at_call 29; refine (back_calls HP.out HS).mono ?_; rintro e w_ ⟨v, rfl, HS_⟩; clear HS; have HS := HS_; clear HS_)
  go_ret
  exact ⟨_, rfl, HS.erase 2⟩

set_option maxRecDepth 100000 in
set_option maxHeartbeats 2000000 in
theorem do_G1_l0 {X : SM} {deed tq : Int} (hC : ∀ w, Sat W0 w L → Kd.C k56 w Ac code.length code) (hT : ∀ w, Sat W0 w L → Kd.C (Kd.int .i64) w At sites.length sites) (hfit : ∀ i ∈ code, Fit i) (hnt : sites.length ≤ 1000000) (hn : X.n ≤ 700000) (hb : X.buf.length ≤ 700000) (he : X.s.ended = true) (hg : X.saved.isSome = true) (hd3 : ¬ deed = 3) (hl : X.left = 0) (HS : Sat W0 w (mch g A n c (.slice Ac code.length cc) (.slice At sites.length ct) win X :: L)) :
    Calls Try.prog 22 #[.pointer (some ⟨g, 0, none⟩), .agg #[.int .i64 deed, .int .i64 tq]] w fun e w' => ∃ v, e = .returned v ∧ Sat W0 w' (row k66 66 v [⟨6, 0, 0⟩] :: mch g A n c (.slice Ac code.length cc) (.slice At sites.length ct) win (backF X) :: L) := by
  obtain ⟨p, hp⟩ := Option.isSome_iff_exists.1 hg
  have HP := Aside0.mk hp
  clear hp
  have d3 : (deed == 3) = false := beq_eq_false_iff_ne.mpr hd3
  go_enter Try.func22, Try.ntmps22
  go_upto_region 1 with ((with_reducible refine gate_dst (N := 3) rfl ?_); go_must (refine ev_box HS rfl (N := 3) rfl (cs := #[.int .i64 deed, .int .i64 tq]) (t := 72) ?hrun ?_); (case hrun => first | (go_simp; done) | (go_simp; rfl)); clear HS; intro gd w HS)
  replace HS := HS.swap
  have HM := mchC HS 0 rfl
  have c65 := (HM.2.1 65 (by decide)).trans (stL_ended HM.1)
  have c64 := (HM.2.1 64 (by decide)).trans (stL_pc HM.1)
  have c69 := HM.2.2.2.1
  have c75 := HM.2.2.2.2.2.2.2
  have fs := HM.2.2.1
  clear HM
  have cd := HS.cell 1 rfl
  rw [he] at c65
  have HG := Aside0.mk (guesses_calls (show X.n ≤ 1000000 by omega) HS)
  rw [hg] at HG
  go_upto_region 3 with ((try (refine gate_guard (by rfl) ?_; dsimp only)); go_at_call 28; refine HG.out.mono ?_; rintro e w_ ⟨rfl, HS_⟩; clear HS HG; have HS := HS_; clear HS_)
  clear c65 c64 c69 c75 fs cd
  have HM := mchC HS 0 rfl
  have c65 := (HM.2.1 65 (by decide)).trans (stL_ended HM.1)
  have c64 := (HM.2.1 64 (by decide)).trans (stL_pc HM.1)
  have c69 := HM.2.2.2.1
  have c75 := HM.2.2.2.2.2.2.2
  have fs := HM.2.2.1
  clear HM
  have cd := HS.cell 1 rfl
  have HG := Aside0.mk (guesses_calls (show X.n ≤ 1000000 by omega) HS)
  rw [hg] at HG
  go_upto_region 4 with (go_at_call 28; refine HG.out.mono ?_; rintro e w_ ⟨rfl, HS_⟩; clear HS HG; have HS := HS_; clear HS_)
  clear c65 c64 c69 c75 fs cd
  have HM := mchC HS 0 rfl
  have c65 := (HM.2.1 65 (by decide)).trans (stL_ended HM.1)
  have c64 := (HM.2.1 64 (by decide)).trans (stL_pc HM.1)
  have c69 := HM.2.2.2.1
  have c75 := HM.2.2.2.2.2.2.2
  have fs := HM.2.2.1
  clear HM
  have cd := HS.cell 1 rfl
  rw [hl] at c75
  go_wp2_with (go_at_call 29; refine (back_calls HP.out HS).mono ?_; rintro e w_ ⟨v, rfl, HS_⟩; clear HS; have HS := HS_; clear HS_)
  go_ret
  exact ⟨_, rfl, HS.erase 2⟩

theorem doN_G1 {X : SM} {deed tq : Int} (hC : ∀ w, Sat W0 w L → Kd.C k56 w Ac code.length code) (hT : ∀ w, Sat W0 w L → Kd.C (Kd.int .i64) w At sites.length sites) (hfit : ∀ i ∈ code, Fit i) (hnt : sites.length ≤ 1000000) (hn : X.n ≤ 700000) (hb : X.buf.length ≤ 700000) (he : X.s.ended = true) (hg : X.saved.isSome = true) (hd3 : ¬ deed = 3) (hl : ¬ X.left = 0) (HS : Sat W0 w (mch g A n c (.slice Ac code.length cc) (.slice At sites.length ct) win X :: L)) :
    Calls Try.prog 22 #[.pointer (some ⟨g, 0, none⟩), .agg #[.int .i64 deed, .int .i64 tq]] w fun e w' => ∃ v, e = .returned v ∧ Sat W0 w' (row k66 66 v (doN code sites win ({ X with left := wrap64 (X.left - 1) } : SM) deed tq).2 :: mch g A n c (.slice Ac code.length cc) (.slice At sites.length ct) win (doN code sites win ({ X with left := wrap64 (X.left - 1) } : SM) deed tq).1 :: L) := by
  unfold doN
  dsimp only
  by_cases h0 : X.s.pc < 0
  · rw [if_pos (.inl h0)]; exact do_G1_low hC hT hfit hnt hn hb he hg ⟨rfl⟩ hd3 hl h0 HS
  by_cases h1 : (code.length : Int) ≤ X.s.pc
  · rw [if_pos (.inr h1)]; exact do_G1_high hC hT hfit hnt hn hb he hg ⟨rfl⟩ hd3 hl h0 h1 HS
  rw [if_neg (by omega)]
  obtain ⟨i, hi⟩ : ∃ i, i = rd_T56 code X.s.pc := ⟨_, rfl⟩
  rw [← hi]
  obtain ⟨i0, i1, i2, i3, i4, i5⟩ := i
  have hi := hi.symm
  have h0' : 0 ≤ X.s.pc := by omega
  have h1' : X.s.pc < (code.length : Int) := by omega
  dsimp only
  by_cases h10 : i0 = 10
  · subst h10
    rw [if_pos rfl, if_pos hg]
    exact do_G1_fence hC hT hfit hnt hn hb he hg ⟨rfl⟩ hd3 hl h0' h1' hi HS
  rw [if_neg h10]
  by_cases d1 : deed = 1
  · subst d1
    by_cases h7 : i0 = 7
    · subst h7; rw [if_pos ⟨rfl, .inl rfl⟩]; exact do_G1_w7 hC hT hfit hnt hn hb he hg ⟨rfl⟩ hl h0' h1' hi HS
    by_cases h9 : i0 = 9
    · subst h9; rw [if_pos ⟨rfl, .inr rfl⟩]; exact do_G1_w9 hC hT hfit hnt hn hb he hg ⟨rfl⟩ hl h0' h1' hi HS
    rw [if_neg (by rintro ⟨_, h | h⟩; exact h7 h; exact h9 h), if_neg (by rintro ⟨h, _⟩; omega)]
    exact do_G1_h1 hC hT hfit hnt hn hb he hg ⟨rfl⟩ hl h0' h1' hi h10 h7 h9 HS
  rw [if_neg (fun h => d1 h.1)]
  by_cases d2 : deed = 2
  · subst d2
    by_cases h4 : i0 = 4
    · subst h4; rw [if_pos ⟨rfl, rfl⟩]; exact do_G1_st hC hT hfit hnt hn hb he hg ⟨rfl⟩ hl h0' h1' hi HS
    rw [if_neg (fun h => h4 h.2)]
    exact do_G1_h2 hC hT hfit hnt hn hb he hg ⟨rfl⟩ hl h0' h1' hi h10 h4 HS
  rw [if_neg (fun h => d2 h.1)]
  exact do_G1_h3 hC hT hfit hnt hn hb he hg ⟨rfl⟩ hd3 hl h0' h1' hi h10 d1 d2 HS

end
end Go.Proofs.Ytkgoljbimblkhaa.B
