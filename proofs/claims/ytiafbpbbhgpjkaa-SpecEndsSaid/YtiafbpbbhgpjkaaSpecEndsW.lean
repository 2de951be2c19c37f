/- SpecEnds: if layer 19 ends in k steps the machine has ended behind as many times the window and 2, whatever the deeds. -/
import Derived.Test.YtiafbpbbhgpjkaaSpecAt
import Derived.Test.YtiafbpbbhgpjkaaSpecQ
namespace Go.Proofs.Ytiafbpbbhgpjkaa.B
open Go.RowKit Go.Proofs.Ytiafbpbbhgpjkaa.Mine Go.Proofs.Ytiafbpbbhgpjkaa.Sep Go.Proofs.YtiafbpbbhgpjkaaW.PrintWords Go.Proofs.YtiafbpbbhgpjkaaW.PrintLast Go.Proofs.YtiafbpbbhgpjkaaW.PrintMore
set_option linter.unusedVariables false
set_option linter.unusedSimpArgs false
section
variable {code : List S48} {p : St × List Int} {N : Nat} {X : SM}
theorem fin_of {win : Int} (hw : 0 ≤ win) {K : Nat} (h : Inv2 code p N win X) (hE : Ends code p K) (hP : Phi K win X ≤ 0) : X.s.ended = true ∧ X.saved = none := by
  have h0 := kwn_nonneg h.i
  obtain ⟨k1, k2⟩ := known_le h.i hE h0
  by_cases hi : X.saved.isSome = true
  · obtain ⟨q, hq⟩ := Option.isSome_iff_exists.1 hi
    obtain ⟨g1, g2, g3⟩ := h.g q hq
    rw [phi_some hq] at hP
    have e : kwnS X = q.1 := by unfold kwnS; rw [hq]
    rw [e] at k1
    have := Int.mul_nonneg (show 0 ≤ win + 2 by omega) (show 0 ≤ (K : Int) - q.1.steps by omega)
    omega
  · have hs : X.saved = none := by simpa using hi
    have e : kwnS X = X.s := by unfold kwnS; rw [hs]
    rw [phi_none hs] at hP
    rw [e] at k1 k2
    have : (K : Int) - X.s.steps = 0 := by
      by_cases hz : (K : Int) - X.s.steps = 0
      · exact hz
      · have := Int.mul_pos (show 0 < win + 2 by omega) (show 0 < (K : Int) - X.s.steps by omega)
        omega
    exact ⟨k2.2 (by omega), hs⟩
theorem fin_state {K : Nat} (h : Inv code p N X) (hE : Ends code p K) (he : X.s.ended = true) (hs : X.saved = none) : X.s = (wRun code K p).1 := by
  have h0 := kwn_nonneg h
  obtain ⟨k1, k2⟩ := known_le h hE h0
  have hk := h.known
  have e : kwnS X = X.s := by unfold kwnS; rw [hs]
  rw [e] at hk k2 k1
  have := k2.1 he
  rw [show X.s.steps.toNat = K by omega] at hk
  rw [hk]
theorem new_inv2 (code : List S48) (st me : Int) (arrs : List S72) (ins : List (List Int)) (win : Int) (K : Nat) : Inv2 code (beginS st, startF ins arrs me) 0 win (newX st me arrs ins) ∧ Phi K win (newX st me arrs ins) = (win + 2) * K := by
  have h0 : (beginS st).steps = 0 := rfl
  refine ⟨⟨⟨rfl, rfl, fun x hx => (by cases hx), Nat.le_refl _, Nat.le_refl _, Int.le_refl _, Int.le_refl _, fun q hq => (by cases hq), rfl⟩, fun q hq => by cases hq⟩, ?_⟩
  rw [phi_none rfl]
  show (win + 2) * ((K : Int) - (beginS st).steps) = _
  rw [h0, Int.sub_zero]
end
section
variable {Ac : Option Addr} {cc : Nat} {code : List S48} {Aa : Option Addr} {ca : Nat} {arrs : List S72} {st me : Int} {Ai : Option Addr} {ci : Nat} {ins : List (List Int)} {As : Option Addr} {cs : Nat} {script : List (Int × Int)}

set_option maxRecDepth 100000 in
set_option maxHeartbeats 1000000 in
theorem ends_few (a2 : Int) (W : World) (hC : Kd.C k48 W Ac code.length code) (hcc : code.length ≤ cc) (hA : Kd.C k72 W Aa arrs.length arrs) (hca : arrs.length ≤ ca) (hI : Kd.C (Kd.slice 2 (Kd.int .i64)) W Ai ins.length ins) (hci : ins.length ≤ ci) (hf : palingslaw19_Few.f 500 code arrs st me ins = some false) :
    Calls Try.prog 7 #[.agg #[.slice Ac code.length cc, .slice Aa arrs.length ca, .int .i64 st, .int .i64 me], .slice Ai ins.length ci, .int .i64 a2, .slice As script.length cs] W fun e W' => e = .returned (.bool true) ∧ Below W.heap.size W W' := by
  have HS := Sat.start W
  have HF := Aside0.mk hf
  clear hf
  go_enter Try.func7, Try.ntmps7
  go_upto_region 1 with ((with_reducible refine gate_dst (N := 4) rfl ?_); go_must (refine ev_box HS rfl (N := 4) rfl (cs := #[.slice Ac code.length cc, .slice Aa arrs.length ca, .int .i64 st, .int .i64 me]) (t := 25) ?hrun ?_); (case hrun => first | (go_simp; done) | (go_simp; rfl)); clear HS; intro gb w HS)
  go_upto_region 3 with (go_at_call 9; refine (head_calls HS).mono ?_; rintro e w_ ⟨rfl, HS_⟩; clear HS; have HS := HS_; clear HS_)
  have cb := HS.cell 0 rfl
  have hb0 := HS.old 1 rfl
  have HC := Aside0.mk (Kd.C_below hC hb0)
  have HA := Aside0.mk (Kd.C_below hA hb0)
  have HI := Aside0.mk (Kd.C_below hI hb0)
  clear hb0
  go_wp2_with (first | ((with_reducible refine gate_load (ty := 25) (p := 4) rfl ?_); go_must (refine ev_load HS 0 rfl rfl 25 (.tmp 4) rfl (N := 19) rfl rfl _ Try.underlying25 rfl (by kernel_rfl) ?_)) | (go_at_call 10; (with_reducible refine (palingslaw19_Few.calls 500 _ _ code _ _ arrs st me _ _ ins false _ HC.out hcc HA.out hca HI.out hci HF.out).mono ?_); rintro e w2 ⟨rfl, hb⟩; replace HS := HS.below hb; clear hb; have cb := HS.cell 0 rfl))
  go_ret
  exact ⟨rfl, HS.old 1 rfl⟩

set_option maxRecDepth 100000 in
set_option maxHeartbeats 1000000 in
theorem ends_long (a2 : Int) (W : World) (hC : Kd.C k48 W Ac code.length code) (hcc : code.length ≤ cc) (hA : Kd.C k72 W Aa arrs.length arrs) (hca : arrs.length ≤ ca) (hI : Kd.C (Kd.slice 2 (Kd.int .i64)) W Ai ins.length ins) (hci : ins.length ≤ ci) (hf : palingslaw19_Few.f 500 code arrs st me ins = some true) (hx : decide (60 < (script.length : Int)) = true) :
    Calls Try.prog 7 #[.agg #[.slice Ac code.length cc, .slice Aa arrs.length ca, .int .i64 st, .int .i64 me], .slice Ai ins.length ci, .int .i64 a2, .slice As script.length cs] W fun e W' => e = .returned (.bool true) ∧ Below W.heap.size W W' := by
  have HS := Sat.start W
  have HF := Aside0.mk hf
  clear hf
  go_enter Try.func7, Try.ntmps7
  go_upto_region 1 with ((with_reducible refine gate_dst (N := 4) rfl ?_); go_must (refine ev_box HS rfl (N := 4) rfl (cs := #[.slice Ac code.length cc, .slice Aa arrs.length ca, .int .i64 st, .int .i64 me]) (t := 25) ?hrun ?_); (case hrun => first | (go_simp; done) | (go_simp; rfl)); clear HS; intro gb w HS)
  go_upto_region 3 with (go_at_call 9; refine (head_calls HS).mono ?_; rintro e w_ ⟨rfl, HS_⟩; clear HS; have HS := HS_; clear HS_)
  have cb := HS.cell 0 rfl
  have hb0 := HS.old 1 rfl
  have HC := Aside0.mk (Kd.C_below hC hb0)
  have HA := Aside0.mk (Kd.C_below hA hb0)
  have HI := Aside0.mk (Kd.C_below hI hb0)
  clear hb0
  go_wp2_with (first | ((with_reducible refine gate_load (ty := 25) (p := 4) rfl ?_); go_must (refine ev_load HS 0 rfl rfl 25 (.tmp 4) rfl (N := 19) rfl rfl _ Try.underlying25 rfl (by kernel_rfl) ?_)) | (go_at_call 10; (with_reducible refine (palingslaw19_Few.calls 500 _ _ code _ _ arrs st me _ _ ins true _ HC.out hcc HA.out hca HI.out hci HF.out).mono ?_); rintro e w2 ⟨rfl, hb⟩; replace HS := HS.below hb; clear hb; have cb := HS.cell 0 rfl))
  go_ret
  exact ⟨rfl, HS.old 1 rfl⟩

set_option maxRecDepth 100000 in
set_option maxHeartbeats 1000000 in
theorem ends_noend (a2 : Int) (W : World) (hC : Kd.C k48 W Ac code.length code) (hcc : code.length ≤ cc) (hA : Kd.C k72 W Aa arrs.length arrs) (hca : arrs.length ≤ ca) (hI : Kd.C (Kd.slice 2 (Kd.int .i64)) W Ai ins.length ins) (hci : ins.length ≤ ci) (hf : palingslaw19_Few.f 500 code arrs st me ins = some true) (hF : Fews code arrs st me ins) (hx : decide (60 < (script.length : Int)) = false) (he : (wRun code 60 (beginS st, startF ins arrs me)).1.ended = false) :
    Calls Try.prog 7 #[.agg #[.slice Ac code.length cc, .slice Aa arrs.length ca, .int .i64 st, .int .i64 me], .slice Ai ins.length ci, .int .i64 a2, .slice As script.length cs] W fun e W' => e = .returned (.bool true) ∧ Below W.heap.size W W' := by
  have HS := Sat.start W
  have HF := Aside0.mk hf
  clear hf
  obtain ⟨B, hB⟩ : ∃ B, B = Go.bits .and .i64 a2 7 := ⟨_, rfl⟩
  have hB0 : 0 ≤ B := by rw [hB, and7]; omega
  have hB1 : B ≤ 7 := by rw [hB, and7]; omega
  have hbits : Go.bits .and .i64 a2 7 = B := hB.symm
  obtain ⟨win, hwin⟩ : ∃ win, 1 + B = win := ⟨_, rfl⟩
  have hw : wrap64 win = win := w64 _ (by omega) (by omega)
  have hw0 : 1 ≤ win := by omega
  have hw1 : win ≤ 1000 := by omega
  clear hB
  have HFI := Aside0.mk (fine_of (ins := ins) hF.right)
  obtain ⟨S, hSd⟩ : ∃ S, S = (wRun code 60 (beginS st, startF ins arrs me)).1 := ⟨_, rfl⟩
  obtain ⟨M60, hMd⟩ : ∃ M, M = (wRun code 60 (beginS st, startF ins arrs me)).2 := ⟨_, rfl⟩
  have hs : S.regs.length = 64 := by rw [hSd]; exact wRun_regs code 60 (beginS st, startF ins arrs me) rfl
  obtain ⟨lo, hlo⟩ : ∃ lo, M60.length = lo := ⟨_, rfl⟩
  have HLO := Aside0.mk hlo
  rw [← hSd] at he
  have HSD := Aside0.mk (And.intro hSd hMd)
  clear hSd hMd hlo
  go_enter Try.func7, Try.ntmps7
  go_upto_region 1 with ((with_reducible refine gate_dst (N := 4) rfl ?_); go_must (refine ev_box HS rfl (N := 4) rfl (cs := #[.slice Ac code.length cc, .slice Aa arrs.length ca, .int .i64 st, .int .i64 me]) (t := 25) ?hrun ?_); (case hrun => first | (go_simp; done) | (go_simp; rfl)); clear HS; intro gb w HS)
  go_upto_region 3 with (go_at_call 9; refine (head_calls HS).mono ?_; rintro e w_ ⟨rfl, HS_⟩; clear HS; have HS := HS_; clear HS_)
  have cb := HS.cell 0 rfl
  have hb0 := HS.old 1 rfl
  have HC := Aside0.mk (Kd.C_below hC hb0)
  have HA := Aside0.mk (Kd.C_below hA hb0)
  have HI := Aside0.mk (Kd.C_below hI hb0)
  clear hb0
  go_upto_region 5 with (first | ((with_reducible refine gate_load (ty := 25) (p := 4) rfl ?_); go_must (refine ev_load HS 0 rfl rfl 25 (.tmp 4) rfl (N := 19) rfl rfl _ Try.underlying25 rfl (by kernel_rfl) ?_)) | (go_at_call 10; (with_reducible refine (palingslaw19_Few.calls 500 _ _ code _ _ arrs st me _ _ ins true _ HC.out hcc HA.out hca HI.out hci HF.out).mono ?_); rintro e w2 ⟨rfl, hb⟩; replace HS := HS.below hb; clear hb; have cb := HS.cell 0 rfl))
  clear HC HA HI
  have HAT := Aside0.mk (show Calls Try.prog 21 #[.agg #[.slice Ac code.length cc, .slice Aa arrs.length ca, .int .i64 st, .int .i64 me], .slice Ai ins.length ci, .int .i64 60] w2 (fun e w' => ∃ v, e = .returned (.tuple #[.agg (stL S).toArray, v]) ∧ Sat W w' (row IW 2 v M60 :: [blk gb 25 #[.slice Ac code.length cc, .slice Aa arrs.length ca, .int .i64 st, .int .i64 me], old W])) from by
    rw [HSD.out.1, HSD.out.2]
    exact at_calls (ci := ci) ⟨fun w h => Kd.C_below hC (h.old 1 rfl), hcc, fun w h => Kd.C_below hA (h.old 1 rfl), hca, fun w h => Kd.C_below hI (h.old 1 rfl)⟩ HFI.out 60 (by omega) HS)
  go_upto_region 7 with (first | ((with_reducible refine gate_load (ty := 25) (p := 4) rfl ?_); go_must (refine ev_load HS 0 rfl rfl 25 (.tmp 4) rfl (N := 32) rfl rfl _ Try.underlying25 rfl (by kernel_rfl) ?_)) | (go_at_call 21; refine HAT.out.mono ?_; rintro e w_ ⟨v, rfl, HS_⟩; clear HS HAT cb; have HS := HS_; clear HS_; obtain ⟨Vo, co, rfl⟩ := HS.slice 0 rfl; rw [HLO.out] at HS ⊢) | ((with_reducible refine gate_dst (N := 9) rfl ?_); go_must (refine ev_box HS rfl (N := 9) rfl (cs := (stL z0).toArray) (t := 37) ?hrun ?_); (case hrun => first | (go_simp; done) | (go_simp; rfl)); clear HS; intro g9 w HS) | ((with_reducible refine gate_store (t := 37) (p := 9) rfl ?_); go_must (refine ev_store HS 0 rfl rfl 37 (.tmp 9) (.tmp 35) rfl rfl rfl (stL S) rfl (len32 hs) (by rw [stL_length hs]; rfl) (stL_one _) ?_); clear HS; intro w HS))
  have c65 := (st_cell HS 0 rfl 65).trans (stL_ended hs)
  rw [he] at c65
  go_wp2
  go_ret
  exact ⟨rfl, HS.old 3 rfl⟩

set_option maxRecDepth 100000 in
set_option maxHeartbeats 1000000 in
theorem ends_main (a2 : Int) (W : World) (hC : Kd.C k48 W Ac code.length code) (hcc : code.length ≤ cc) (hA : Kd.C k72 W Aa arrs.length arrs) (hca : arrs.length ≤ ca) (hI : Kd.C (Kd.slice 2 (Kd.int .i64)) W Ai ins.length ins) (hci : ins.length ≤ ci) (hf : palingslaw19_Few.f 500 code arrs st me ins = some true) (hF : Fews code arrs st me ins) (hScr : Kd.C kDeed W As script.length script) (hx : decide (60 < (script.length : Int)) = false) (he : (wRun code 60 (beginS st, startF ins arrs me)).1.ended = true) :
    Calls Try.prog 7 #[.agg #[.slice Ac code.length cc, .slice Aa arrs.length ca, .int .i64 st, .int .i64 me], .slice Ai ins.length ci, .int .i64 a2, .slice As script.length cs] W fun e W' => e = .returned (.bool true) ∧ Below W.heap.size W W' := by
  have HS := Sat.start W
  have HF := Aside0.mk hf
  clear hf
  have hsl : script.length ≤ 60 := by have := of_decide_eq_false hx; omega
  obtain ⟨B, hB⟩ : ∃ B, B = Go.bits .and .i64 a2 7 := ⟨_, rfl⟩
  have hB0 : 0 ≤ B := by rw [hB, and7]; omega
  have hB1 : B ≤ 7 := by rw [hB, and7]; omega
  have hbits : Go.bits .and .i64 a2 7 = B := hB.symm
  obtain ⟨win, hwin⟩ : ∃ win, 1 + B = win := ⟨_, rfl⟩
  have hw : wrap64 win = win := w64 _ (by omega) (by omega)
  have hw0 : 1 ≤ win := by omega
  have hw1 : win ≤ 1000 := by omega
  clear hB
  have HFI := Aside0.mk (fine_of (ins := ins) hF.right)
  obtain ⟨S, hSd⟩ : ∃ S, S = (wRun code 60 (beginS st, startF ins arrs me)).1 := ⟨_, rfl⟩
  obtain ⟨M60, hMd⟩ : ∃ M, M = (wRun code 60 (beginS st, startF ins arrs me)).2 := ⟨_, rfl⟩
  have hs : S.regs.length = 64 := by rw [hSd]; exact wRun_regs code 60 (beginS st, startF ins arrs me) rfl
  obtain ⟨lo, hlo⟩ : ∃ lo, M60.length = lo := ⟨_, rfl⟩
  have HLO := Aside0.mk hlo
  obtain ⟨K, hK60, hKe, hKb, hKr⟩ := first_end code (beginS st, startF ins arrs me) 60 he
  have hKs := wRun_steps code (beginS st, startF ins arrs me) rfl K (by omega) hKb
  have HEN := Aside0.mk (show Ends code (beginS st, startF ins arrs me) K ∧ (wRun code K (beginS st, startF ins arrs me)).1 = S from ⟨⟨hKe, hKb, hKs⟩, by rw [hSd, hKr]⟩)
  have HST := Aside0.mk (show S.steps = (K : Int) from by rw [← HEN.out.2]; exact hKs)
  obtain ⟨T, hT⟩ : ∃ T, (win + 2) * (K : Int) = T := ⟨_, rfl⟩
  have hT0 : 0 ≤ T := by rw [← hT]; exact Int.mul_nonneg (by omega) (by omega)
  have hT1 : T ≤ 600 := by
    rw [← hT]
    have := Int.mul_le_mul (show win + 2 ≤ 10 by omega) (show (K : Int) ≤ 60 by omega) (by omega) (by omega)
    omega
  have HTT := Aside0.mk (show 0 ≤ T ∧ T ≤ 600 from ⟨hT0, hT1⟩)
  have HTE := Aside0.mk hT
  have hwin2 : wrap64 (win + 2) = win + 2 := w64 _ (by omega) (by omega)
  have hwT : wrap64 T = T := w64 _ (by omega) (by omega)
  clear hK60 hKe hKb hKr hKs hT0 hT1
  rw [← hSd] at he
  have HSD := Aside0.mk (And.intro hSd hMd)
  clear hSd hMd hlo
  go_enter Try.func7, Try.ntmps7
  go_upto_region 1 with ((with_reducible refine gate_dst (N := 4) rfl ?_); go_must (refine ev_box HS rfl (N := 4) rfl (cs := #[.slice Ac code.length cc, .slice Aa arrs.length ca, .int .i64 st, .int .i64 me]) (t := 25) ?hrun ?_); (case hrun => first | (go_simp; done) | (go_simp; rfl)); clear HS; intro gb w HS)
  go_upto_region 3 with (go_at_call 9; refine (head_calls HS).mono ?_; rintro e w_ ⟨rfl, HS_⟩; clear HS; have HS := HS_; clear HS_)
  have cb := HS.cell 0 rfl
  have hb0 := HS.old 1 rfl
  have HC := Aside0.mk (Kd.C_below hC hb0)
  have HA := Aside0.mk (Kd.C_below hA hb0)
  have HI := Aside0.mk (Kd.C_below hI hb0)
  clear hb0
  go_upto_region 5 with (first | ((with_reducible refine gate_load (ty := 25) (p := 4) rfl ?_); go_must (refine ev_load HS 0 rfl rfl 25 (.tmp 4) rfl (N := 19) rfl rfl _ Try.underlying25 rfl (by kernel_rfl) ?_)) | (go_at_call 10; (with_reducible refine (palingslaw19_Few.calls 500 _ _ code _ _ arrs st me _ _ ins true _ HC.out hcc HA.out hca HI.out hci HF.out).mono ?_); rintro e w2 ⟨rfl, hb⟩; replace HS := HS.below hb; clear hb; have cb := HS.cell 0 rfl))
  clear HC HA HI
  have HAT := Aside0.mk (show Calls Try.prog 21 #[.agg #[.slice Ac code.length cc, .slice Aa arrs.length ca, .int .i64 st, .int .i64 me], .slice Ai ins.length ci, .int .i64 60] w2 (fun e w' => ∃ v, e = .returned (.tuple #[.agg (stL S).toArray, v]) ∧ Sat W w' (row IW 2 v M60 :: [blk gb 25 #[.slice Ac code.length cc, .slice Aa arrs.length ca, .int .i64 st, .int .i64 me], old W])) from by
    rw [HSD.out.1, HSD.out.2]
    exact at_calls (ci := ci) ⟨fun w h => Kd.C_below hC (h.old 1 rfl), hcc, fun w h => Kd.C_below hA (h.old 1 rfl), hca, fun w h => Kd.C_below hI (h.old 1 rfl)⟩ HFI.out 60 (by omega) HS)
  go_upto_region 7 with (first | ((with_reducible refine gate_load (ty := 25) (p := 4) rfl ?_); go_must (refine ev_load HS 0 rfl rfl 25 (.tmp 4) rfl (N := 32) rfl rfl _ Try.underlying25 rfl (by kernel_rfl) ?_)) | (go_at_call 21; refine HAT.out.mono ?_; rintro e w_ ⟨v, rfl, HS_⟩; clear HS HAT cb; have HS := HS_; clear HS_; obtain ⟨Vo, co, rfl⟩ := HS.slice 0 rfl; rw [HLO.out] at HS ⊢) | ((with_reducible refine gate_dst (N := 9) rfl ?_); go_must (refine ev_box HS rfl (N := 9) rfl (cs := (stL z0).toArray) (t := 37) ?hrun ?_); (case hrun => first | (go_simp; done) | (go_simp; rfl)); clear HS; intro g9 w HS) | ((with_reducible refine gate_store (t := 37) (p := 9) rfl ?_); go_must (refine ev_store HS 0 rfl rfl 37 (.tmp 9) (.tmp 35) rfl rfl rfl (stL S) rfl (len32 hs) (by rw [stL_length hs]; rfl) (stL_one _) ?_); clear HS; intro w HS))
  have c65 := (st_cell HS 0 rfl 65).trans (stL_ended hs)
  rw [he] at c65
  have HEE := Aside0.mk he
  have c68 := (st_cell HS 0 rfl 68).trans (stL_steps hs)
  rw [HST.out] at c68
  clear he
  replace HS : Sat W w [blk g9 37 (stL S).toArray, row IW 2 (.slice Vo lo co) M60, blk gb 25 #[.slice Ac code.length cc, .slice Aa arrs.length ca, .int .i64 st, .int .i64 me], old W] := HS
  have HN := Aside0.mk (new_calls (Ai := Ai) (ci := ci) (ins := ins) (fun w h => Kd.C_below hC (h.old 3 rfl)) hcc (fun w h => Kd.C_below hA (h.old 3 rfl)) hca (fun w h => Kd.C_below hI (h.old 3 rfl)) (Aside0.mk HFI.out.right.choose_spec) HFI.out.lies HFI.out.al HFI.out.m0 HFI.out.m1 HFI.out.cl hw0 hw1 HS)
  go_upto_region 10 with (first | ((with_reducible refine gate_load (ty := 25) (p := 4) rfl ?_); go_must (refine ev_load HS 2 rfl rfl 25 (.tmp 4) rfl (N := 41) rfl rfl _ Try.underlying25 rfl (by kernel_rfl) ?_)) | (go_at_call 11; refine HN.out.mono ?_; rintro e w_ ⟨g, Am, cm, At, ct, rfl, HS_⟩; clear HS HN c65 c68; have HS := HS_; clear HS_))
  obtain ⟨hi2, hphi⟩ := new_inv2 code st me arrs ins win K
  have HI2 := Aside0.mk (And.intro hi2 hphi)
  clear hi2 hphi
  replace HS : Sat W w_ [mch g Am me.toNat cm (.slice Ac code.length cc) (.slice At (sitesF code 0).length ct) win (newX st me arrs ins), row IW 3 (.slice At (sitesF code 0).length ct) (sitesF code 0), blk g9 37 (stL S).toArray, row IW 2 (.slice Vo lo co) M60, blk gb 25 #[.slice Ac code.length cc, .slice Aa arrs.length ca, .int .i64 st, .int .i64 me], old W] := HS
  go_wp2
  go_loopg [13] (T.toNat + 1) (fun kq v13 w' => ∃ (i : Nat) (X : SM), v13 = .int .i64 (i : Int) ∧ Aside0 ((i : Int) ≤ T ∧ T.toNat + 1 ≤ kq + i ∧ Inv2 code (beginS st, startF ins arrs me) i win X ∧ ((X.s.ended = true ∧ X.saved = none) ∨ Phi K win X ≤ T - i)) ∧
      Aside0 (Sat W w' [mch g Am me.toNat cm (.slice Ac code.length cc) (.slice At (sitesF code 0).length ct) win X, row IW 3 (.slice At (sitesF code 0).length ct) (sitesF code 0), blk g9 37 (stL S).toArray, row IW 2 (.slice Vo lo co) M60, blk gb 25 #[.slice Ac code.length cc, .slice Aa arrs.length ca, .int .i64 st, .int .i64 me], old W]))
  case atStart => exact ⟨0, (newX st me arrs ins), rfl, ⟨by have := HTT.out; omega, by omega, HI2.out.1, .inr (by rw [HI2.out.2, HTE.out]; omega)⟩, ⟨HS⟩⟩
  case round =>
    clear HS
    obtain ⟨i, X, rfl, HJ, HS'⟩ := hrel
    have HS := HS'.out
    clear HS'
    have c68 := (st_cell HS 2 rfl 68).trans (stL_steps hs)
    rw [HST.out] at c68
    have hTl := HTT.out
    obtain ⟨I, hI_⟩ : ∃ I : Int, (i : Int) = I := ⟨_, rfl⟩
    rw [hI_]
    have HII := Aside0.mk hI_
    cases gk with
    | zero => have := HJ.out; omega
    | succ k1 =>
      by_cases hk : I < T
      · have c1_ : decide (I < T) = true := decide_eq_true hk
        have HIK := Aside0.mk (show (i : Int) < T ∧ i ≤ 700 from ⟨by omega, by omega⟩)
        have hwi : wrap64 (I + 1) = I + 1 := w64 _ (by omega) (by omega)
        have p1 : 0 ≤ I := by omega
        clear hk hI_
        by_cases hl0 : script.length = 0
        · have hlb : decide (0 < script.length) = false := decide_eq_false (by omega)
          clear hl0
          go_upto_region 16 with (first | ((with_reducible refine gate_dst (N := 14) rfl ?_); go_must (refine ev_box HS rfl (N := 14) rfl (cs := #[.int .i64 0, .int .i64 0]) (t := 44) ?hrun ?_); (case hrun => first | (go_simp; done) | (go_simp; rfl)); clear HS; intro gd w HS) | ((with_reducible refine gate_store (t := 44) (p := 14) rfl ?_); go_must (refine ev_store HS 0 rfl rfl 44 (.tmp 14) (.tmp 59) rfl rfl rfl [.int .i64 1, .int .i64 I] ?hx (by kernel_rfl) (by rfl) ?h1 ?_); (case hx => first | rfl | (go_simp; done)); (case h1 => simp [Value.oneCell']); clear HS; intro w HS))
          go_upto_region 18 with (fail)
          replace HS := HS.swap
          have hgood := doM_phi (d := 1) (tq := I) (by omega) hw1 HJ.out.2.2.1 (by have := HIK.out; omega) (sitesF code 0) K
          obtain ⟨Q, hQ⟩ : ∃ Q, Q = doM code (sitesF code 0) win X 1 I := ⟨_, rfl⟩
          rw [← hQ] at hgood
          have HGD := Aside0.mk hgood
          have HQ := Aside0.mk hQ
          clear hgood hQ
          have HDD := Aside0.mk (show Calls Try.prog 15 #[.pointer (some ⟨g, 0, none⟩), .agg #[.int .i64 1, .int .i64 I]] w (fun e w' => ∃ v, e = .returned v ∧ Sat W w' (row k60 60 v Q.2 :: mch g Am me.toNat cm (.slice Ac code.length cc) (.slice At (sitesF code 0).length ct) win Q.1 :: _)) from by
            rw [HQ.out]
            exact deed_calls (sites := (sitesF code 0)) (deed := 1) (tq := I) (X := X) (fun w h => Kd.C_below hC (h.old 5 rfl)) (fun w h => h.C 1 rfl) HFI.out.fit (by have := sitesF_len code 0; have := HFI.out.cl; omega) (by have := HJ.out.2.2.1.i.cnt; have := HIK.out; omega) (by have := HJ.out.2.2.1.i.len; have := HIK.out; omega) HS)
          go_wp2_with (first | ((with_reducible refine gate_load (ty := 44) (p := 14) rfl ?_); go_must (refine ev_load HS 1 rfl rfl 44 (.tmp 14) rfl (N := 71) rfl rfl _ Try.underlying44 rfl (by kernel_rfl) ?_)) | (go_at_call 15; refine HDD.out.mono ?_; rintro e w_ ⟨v, rfl, HS_⟩; clear HS HDD c68; have HS := HS_.tail; clear HS_))
          go_roundg k1
          case measure => omega
          case rel =>
            refine ⟨i + 1, Q.1, by rw [← HII.out]; first | rfl | (rw [w64 ((i : Int) + 1) (by omega) (by have := HIK.out; omega)]; rfl), ⟨by have := HIK.out; push_cast; omega, by have := HJ.out; omega, HGD.out.1, ?_⟩, ⟨HS.erase 1⟩⟩
            rcases HGD.out.2 with h | h
            · left
              rw [HQ.out] at h ⊢
              rw [h.2.2]
              exact ⟨h.1, h.2.1⟩
            · rcases HJ.out.2.2.2 with h2 | h2
              · left
                have hdo : doM code (sitesF code 0) win X 1 I = (X, []) := by
                  unfold doM
                  rw [if_pos ⟨h2.1, by rw [h2.2]; rfl⟩]
                rw [HQ.out, hdo]
                exact h2
              · right
                push_cast
                omega
        · have hlb : decide (0 < script.length) = true := decide_eq_true (by omega)
          have hlz : (script.length = 0) = False := eq_false hl0
          obtain ⟨Z, hZ⟩ : ∃ Z, Int.tmod I (script.length : Int) = Z := ⟨_, rfl⟩
          have z0_ : 0 ≤ Z := by rw [← hZ]; exact Int.tmod_nonneg _ p1
          have z1_ : Z < (script.length : Int) := by rw [← hZ]; exact Int.tmod_lt_of_pos _ (by omega)
          clear hl0
          go_upto_region 16 with (first | ((with_reducible refine gate_dst (N := 14) rfl ?_); go_must (refine ev_box HS rfl (N := 14) rfl (cs := #[.int .i64 0, .int .i64 0]) (t := 44) ?hrun ?_); (case hrun => first | (go_simp; done) | (go_simp; rfl)); clear HS; intro gd w HS) | ((with_reducible refine gate_store (t := 44) (p := 14) rfl ?_); go_must (refine ev_store HS 0 rfl rfl 44 (.tmp 14) (.tmp 59) rfl rfl rfl [.int .i64 1, .int .i64 I] ?hx (by kernel_rfl) (by rfl) ?h1 ?_); (case hx => first | rfl | (go_simp; done)); (case h1 => simp [Value.oneCell']); clear HS; intro w HS))
          obtain ⟨ad, rfl, x0, x1⟩ := at_D (Kd.C_below hScr (HS.old 6 rfl)) Z z0_ z1_
          obtain ⟨d, hd⟩ : ∃ d, d = rd_D script Z := ⟨_, rfl⟩
          rw [← hd] at x0 x1
          clear hd
          obtain ⟨d1, d2⟩ := d
          dsimp only at x0 x1
          have r1 := eq_true z0_
          have r2 := eq_true z1_
          go_upto_region 18 with ((with_reducible refine gate_store (t := 44) (p := 14) rfl ?_); go_must (refine ev_store HS 0 rfl rfl 44 (.tmp 14) (.tmp 69) rfl rfl rfl [.int .i64 d1, .int .i64 d2] ?hx (by kernel_rfl) (by rfl) ?h1 ?_); (case hx => first | rfl | (go_simp; done)); (case h1 => simp [Value.oneCell']); clear HS; intro w HS)
          replace HS := HS.swap
          have hgood := doM_phi (d := d1) (tq := d2) (by omega) hw1 HJ.out.2.2.1 (by have := HIK.out; omega) (sitesF code 0) K
          obtain ⟨Q, hQ⟩ : ∃ Q, Q = doM code (sitesF code 0) win X d1 d2 := ⟨_, rfl⟩
          rw [← hQ] at hgood
          have HGD := Aside0.mk hgood
          have HQ := Aside0.mk hQ
          clear hgood hQ
          have HDD := Aside0.mk (show Calls Try.prog 15 #[.pointer (some ⟨g, 0, none⟩), .agg #[.int .i64 d1, .int .i64 d2]] w (fun e w' => ∃ v, e = .returned v ∧ Sat W w' (row k60 60 v Q.2 :: mch g Am me.toNat cm (.slice Ac code.length cc) (.slice At (sitesF code 0).length ct) win Q.1 :: _)) from by
            rw [HQ.out]
            exact deed_calls (sites := (sitesF code 0)) (deed := d1) (tq := d2) (X := X) (fun w h => Kd.C_below hC (h.old 5 rfl)) (fun w h => h.C 1 rfl) HFI.out.fit (by have := sitesF_len code 0; have := HFI.out.cl; omega) (by have := HJ.out.2.2.1.i.cnt; have := HIK.out; omega) (by have := HJ.out.2.2.1.i.len; have := HIK.out; omega) HS)
          go_wp2_with (first | ((with_reducible refine gate_load (ty := 44) (p := 14) rfl ?_); go_must (refine ev_load HS 1 rfl rfl 44 (.tmp 14) rfl (N := 71) rfl rfl _ Try.underlying44 rfl (by kernel_rfl) ?_)) | (go_at_call 15; refine HDD.out.mono ?_; rintro e w_ ⟨v, rfl, HS_⟩; clear HS HDD c68; have HS := HS_.tail; clear HS_))
          go_roundg k1
          case measure => omega
          case rel =>
            refine ⟨i + 1, Q.1, by rw [← HII.out]; first | rfl | (rw [w64 ((i : Int) + 1) (by omega) (by have := HIK.out; omega)]; rfl), ⟨by have := HIK.out; push_cast; omega, by have := HJ.out; omega, HGD.out.1, ?_⟩, ⟨HS.erase 1⟩⟩
            rcases HGD.out.2 with h | h
            · left
              rw [HQ.out] at h ⊢
              rw [h.2.2]
              exact ⟨h.1, h.2.1⟩
            · rcases HJ.out.2.2.2 with h2 | h2
              · left
                have hdo : doM code (sitesF code 0) win X d1 d2 = (X, []) := by
                  unfold doM
                  rw [if_pos ⟨h2.1, by rw [h2.2]; rfl⟩]
                rw [HQ.out, hdo]
                exact h2
              · right
                push_cast
                omega
      · have hkb : decide (I < T) = false := decide_eq_false hk
        have hiT : (i : Int) = T := by have := HJ.out.1; omega
        have hfin : X.s.ended = true ∧ X.saved = none := by
          rcases HJ.out.2.2.2 with h | h
          · exact h
          · exact fin_of (by omega) HJ.out.2.2.1 HEN.out.1 (by omega)
        have hXS : X.s = S := by rw [fin_state HJ.out.2.2.1.i HEN.out.1 hfin.1 hfin.2, HEN.out.2]
        have hiv := HJ.out.2.2.1.i
        have hdo : doM code (sitesF code 0) win X 0 0 = (X, []) := by
          unfold doM
          rw [if_pos ⟨hfin.1, by rw [hfin.2]; rfl⟩]
        have HFX := Aside0.mk (show X.n ≤ 1000000 ∧ X.saved.isSome = false ∧ X.s.val = S.val ∧ X.n ≤ 700000 ∧ X.buf.length ≤ 700000 ∧ doM code (sitesF code 0) win X 0 0 = (X, []) from
          ⟨by have := hiv.cnt; omega, by rw [hfin.2]; rfl, by rw [hXS], by have := hiv.cnt; omega, by have := hiv.len; omega, hdo⟩)
        have hml : X.mem.length ≤ 1048576 := by
          rw [hiv.mem]
          show (startF ins arrs me).length ≤ 1048576
          unfold startF
          rw [startL_length, List.length_replicate]
          have := HFI.out.m1
          omega
        have hkB : kwnB X = X.buf := by unfold kwnB; rw [hfin.2]
        have hkS : kwnS X = S := by unfold kwnS; rw [hfin.2]; exact hXS
        have HK := Aside0.mk (known_calls hml (by have := hiv.len; omega) (by rw [hkB]; have := hiv.len; omega) HS)
        rw [hkS] at HK
        obtain ⟨M, hM⟩ : ∃ M, M = kwnM X := ⟨_, rfl⟩
        rw [← hM] at HK
        obtain ⟨lm, hlm⟩ : ∃ lm, M.length = lm := ⟨_, rfl⟩
        have HLM := Aside0.mk hlm
        clear hfin hXS hiv hdo hml hkB hkS hM hlm hiT hk hI_
        go_upto_region 20 with (first | (go_at_call 20; refine HK.out.mono ?_; rintro e w_ ⟨v, rfl, HS_⟩; clear HS HK c68; have HS := HS_; clear HS_; obtain ⟨V1, c1, rfl⟩ := HS.slice 0 rfl; rw [HLM.out] at HS ⊢) | ((with_reducible refine gate_dst (N := 15) rfl ?_); go_must (refine ev_box HS rfl (N := 15) rfl (cs := (stL z0).toArray) (t := 37) ?hrun ?_); (case hrun => first | (go_simp; done) | (go_simp; rfl)); clear HS; intro g15 w HS) | ((with_reducible refine gate_store (t := 37) (p := 15) rfl ?_); go_must (refine ev_store HS 0 rfl rfl 37 (.tmp 15) (.tmp 76) rfl rfl rfl (stL S) rfl (len32 hs) (by rw [stL_length hs]; rfl) (stL_one _) ?_); clear HS; intro w HS))
        replace HS : Sat W w [blk g15 37 (stL S).toArray, row IW 2 (.slice V1 lm c1) M, mch g Am me.toNat cm (.slice Ac code.length cc) (.slice At (sitesF code 0).length ct) win X, row IW 3 (.slice At (sitesF code 0).length ct) (sitesF code 0), blk g9 37 (stL S).toArray, row IW 2 (.slice Vo lo co) M60, blk gb 25 #[.slice Ac code.length cc, .slice Aa arrs.length ca, .int .i64 st, .int .i64 me], old W] := HS
        have hvv : (S.val == S.val) = true := beq_self_eq_true _
        refine start_ (n := 30) (S := fun w' => Sat W w' [blk g15 37 (stL S).toArray, row IW 2 (.slice V1 lm c1) M, mch g Am me.toNat cm (.slice Ac code.length cc) (.slice At (sitesF code 0).length ct) win X, row IW 3 (.slice At (sitesF code 0).length ct) (sitesF code 0), blk g9 37 (stL S).toArray, row IW 2 (.slice Vo lo co) M60, blk gb 25 #[.slice Ac code.length cc, .slice Aa arrs.length ca, .int .i64 st, .int .i64 me], old W]) (ds := [25]) #[false, false, false, false, false, false, false, false, false, false, false, false, false, false, false, false, false, false, false, false, false, false, false, false, false, false, false, false, false, false] (by kernel_rfl) rfl rfl HS.drew (fun hHeld => ?_)
        replace HS := HS.drew
        generalize World.drew w = w at HS hHeld ⊢
        refine pure_ (i := 0) (N := some 78) (v := ?_) (a' := ?_) #[true, false, false, false, false, false, false, false, false, false, false, false, false, false, false, false, false, false, false, false, false, false, false, false, false, false, false, false, false, false] rfl rfl (by kernel_rfl) (fun _ _ _ h => h) (Or.inl ⟨by rfl, ?_⟩) ?_ ?_
        rotate_left
        · intro w'
          go_simp
          with_reducible rfl
        rotate_left
        · (try simp only [Act.put, List.setIfInBounds_toArray, List.set_cons_zero, List.set_cons_succ, i64_w, i32_w])
          rfl
        refine take_ (i := 1) (N := some 79) (v := ?_) (a' := ?_) #[true, true, false, false, false, false, false, false, false, false, false, false, false, false, false, false, false, false, false, false, false, false, false, false, false, false, false, false, false, false] rfl rfl (by kernel_rfl) (fun _ _ _ h => h) (Or.inl ⟨by rfl, ?_⟩) hHeld ?_ ?_
        rotate_left
        · rintro w' hS
          have e65 := (st_cell hS 0 rfl 65).trans (stL_ended hs)
          rw [HEE.out] at e65
          have e66 := (st_cell hS 4 rfl 66).trans (stL_val hs)
          have HM := mchC hS 2 rfl
          have x66 := (HM.2.1 66 (by decide)).trans (stL_val HM.1)
          rw [HFX.out.2.2.1] at x66
          clear HM
          go_simp
          with_reducible rfl
        rotate_left
        · (try simp only [Act.put, List.setIfInBounds_toArray, List.set_cons_zero, List.set_cons_succ, i64_w, i32_w])
          rfl
        refine pure_ (i := 2) (N := some 80) (v := ?_) (a' := ?_) #[true, true, true, false, false, false, false, false, false, false, false, false, false, false, false, false, false, false, false, false, false, false, false, false, false, false, false, false, false, false] rfl rfl (by kernel_rfl) (fun _ _ _ h => h) (Or.inl ⟨by rfl, ?_⟩) ?_ ?_
        rotate_left
        · intro w'
          go_simp
          with_reducible rfl
        rotate_left
        · (try simp only [Act.put, List.setIfInBounds_toArray, List.set_cons_zero, List.set_cons_succ, i64_w, i32_w])
          rfl
        refine pure_ (i := 3) (N := some 81) (v := ?_) (a' := ?_) #[true, true, true, true, false, false, false, false, false, false, false, false, false, false, false, false, false, false, false, false, false, false, false, false, false, false, false, false, false, false] rfl rfl (by kernel_rfl) (fun _ _ _ h => h) (Or.inl ⟨by rfl, ?_⟩) ?_ ?_
        rotate_left
        · intro w'
          go_simp
          with_reducible rfl
        rotate_left
        · (try simp only [Act.put, List.setIfInBounds_toArray, List.set_cons_zero, List.set_cons_succ, i64_w, i32_w])
          rfl
        refine one_ (i := 4) (N := some 82) #[true, true, true, true, true, false, false, false, false, false, false, false, false, false, false, false, false, false, false, false, false, false, false, false, false, false, false, false, false, false] rfl rfl (by kernel_rfl) (by decide) (fun K hK => ?_)
        refine goes_ Try.func17 (by kernel_rfl) rfl #[.pointer (some ⟨g, 0, none⟩)] (by rfl) rfl rfl (by (try simp only [List.map_toArray, List.map_cons, List.map_nil]); first | done | rfl) ?_
        refine (guesses_at (X := X) HFX.out.1 2 rfl HS).mono ?_
        rw [HFX.out.2.1]
        clear HS
        rintro e w ⟨rfl, HS⟩
        refine ⟨_, rfl, ?_⟩
        refine hK.out _ _ HS (fun hHeld => ?_)
        clear hK K
        refine norm_ (a' := ?_) ?_ ?_
        rotate_left
        · show Act.put _ _ _ = _
          (try simp only [Act.put, List.setIfInBounds_toArray, List.set_cons_zero, List.set_cons_succ, i64_w, i32_w])
          rfl
        refine pure_ (i := 5) (N := some 83) (v := ?_) (a' := ?_) #[true, true, true, true, true, true, false, false, false, false, false, false, false, false, false, false, false, false, false, false, false, false, false, false, false, false, false, false, false, false] rfl rfl (by kernel_rfl) (fun _ _ _ h => h) (Or.inl ⟨by rfl, ?_⟩) ?_ ?_
        rotate_left
        · intro w'
          go_simp
          with_reducible rfl
        rotate_left
        · (try simp only [Act.put, List.setIfInBounds_toArray, List.set_cons_zero, List.set_cons_succ, i64_w, i32_w])
          rfl
        refine pure_ (i := 6) (N := some 84) (v := ?_) (a' := ?_) #[true, true, true, true, true, true, true, false, false, false, false, false, false, false, false, false, false, false, false, false, false, false, false, false, false, false, false, false, false, false] rfl rfl (by kernel_rfl) (fun _ _ _ h => h) (Or.inl ⟨by rfl, ?_⟩) ?_ ?_
        rotate_left
        · intro w'
          go_simp
          with_reducible rfl
        rotate_left
        · (try simp only [Act.put, List.setIfInBounds_toArray, List.set_cons_zero, List.set_cons_succ, i64_w, i32_w])
          rfl
        refine pure_ (i := 7) (N := some 85) (v := ?_) (a' := ?_) #[true, true, true, true, true, true, true, true, false, false, false, false, false, false, false, false, false, false, false, false, false, false, false, false, false, false, false, false, false, false] rfl rfl (by kernel_rfl) (fun _ _ _ h => h) (Or.inl ⟨by rfl, ?_⟩) ?_ ?_
        rotate_left
        · intro w'
          go_simp
          with_reducible rfl
        rotate_left
        · (try simp only [Act.put, List.setIfInBounds_toArray, List.set_cons_zero, List.set_cons_succ, i64_w, i32_w])
          rfl
        refine take_ (i := 8) (N := some 86) (v := ?_) (a' := ?_) #[true, true, true, true, true, true, true, true, true, false, false, false, false, false, false, false, false, false, false, false, false, false, false, false, false, false, false, false, false, false] rfl rfl (by kernel_rfl) (fun _ _ _ h => h) (Or.inl ⟨by rfl, ?_⟩) hHeld ?_ ?_
        rotate_left
        · rintro w' hS
          have e65 := (st_cell hS 0 rfl 65).trans (stL_ended hs)
          rw [HEE.out] at e65
          have e66 := (st_cell hS 4 rfl 66).trans (stL_val hs)
          have HM := mchC hS 2 rfl
          have x66 := (HM.2.1 66 (by decide)).trans (stL_val HM.1)
          rw [HFX.out.2.2.1] at x66
          clear HM
          refine whole_run hS 0 rfl 37 (.tmp 15) ?_ ?_ _ Try.underlying37 rfl (size32 hs) <;> rfl
        rotate_left
        · (try simp only [Act.put, List.setIfInBounds_toArray, List.set_cons_zero, List.set_cons_succ, i64_w, i32_w])
          rfl
        refine take_ (i := 9) (N := some 87) (v := ?_) (a' := ?_) #[true, true, true, true, true, true, true, true, true, true, false, false, false, false, false, false, false, false, false, false, false, false, false, false, false, false, false, false, false, false] rfl rfl (by kernel_rfl) (fun _ _ _ h => h) (Or.inl ⟨by rfl, ?_⟩) hHeld ?_ ?_
        rotate_left
        · rintro w' hS
          have e65 := (st_cell hS 0 rfl 65).trans (stL_ended hs)
          rw [HEE.out] at e65
          have e66 := (st_cell hS 4 rfl 66).trans (stL_val hs)
          have HM := mchC hS 2 rfl
          have x66 := (HM.2.1 66 (by decide)).trans (stL_val HM.1)
          rw [HFX.out.2.2.1] at x66
          clear HM
          refine whole_run hS 4 rfl 37 (.tmp 9) ?_ ?_ _ Try.underlying37 rfl (size32 hs) <;> rfl
        rotate_left
        · (try simp only [Act.put, List.setIfInBounds_toArray, List.set_cons_zero, List.set_cons_succ, i64_w, i32_w])
          rfl
        refine pure_ (i := 10) (N := some 88) (v := ?_) (a' := ?_) #[true, true, true, true, true, true, true, true, true, true, true, false, false, false, false, false, false, false, false, false, false, false, false, false, false, false, false, false, false, false] rfl rfl (by kernel_rfl) (fun _ _ _ h => h) (Or.inl ⟨by rfl, ?_⟩) ?_ ?_
        rotate_left
        · intro w'
          refine run_eql_op hs (x := .tmp 86) (y := .tmp 87) ?_ ?_ ?_ w' <;> rfl
        rotate_left
        · (try simp only [Act.put, List.setIfInBounds_toArray, List.set_cons_zero, List.set_cons_succ, i64_w, i32_w])
          rfl
        refine pure_ (i := 11) (N := some 89) (v := ?_) (a' := ?_) #[true, true, true, true, true, true, true, true, true, true, true, true, false, false, false, false, false, false, false, false, false, false, false, false, false, false, false, false, false, false] rfl rfl (by kernel_rfl) (fun _ _ _ h => h) (Or.inl ⟨by rfl, ?_⟩) ?_ ?_
        rotate_left
        · intro w'
          go_simp
          with_reducible rfl
        rotate_left
        · (try simp only [Act.put, List.setIfInBounds_toArray, List.set_cons_zero, List.set_cons_succ, i64_w, i32_w])
          rfl
        refine pure_ (i := 12) (N := some 90) (v := ?_) (a' := ?_) #[true, true, true, true, true, true, true, true, true, true, true, true, true, false, false, false, false, false, false, false, false, false, false, false, false, false, false, false, false, false] rfl rfl (by kernel_rfl) (fun _ _ _ h => h) (Or.inl ⟨by rfl, ?_⟩) ?_ ?_
        rotate_left
        · intro w'
          go_simp
          with_reducible rfl
        rotate_left
        · (try simp only [Act.put, List.setIfInBounds_toArray, List.set_cons_zero, List.set_cons_succ, i64_w, i32_w])
          rfl
        refine pure_ (i := 13) (N := some 91) (v := ?_) (a' := ?_) #[true, true, true, true, true, true, true, true, true, true, true, true, true, true, false, false, false, false, false, false, false, false, false, false, false, false, false, false, false, false] rfl rfl (by kernel_rfl) (fun _ _ _ h => h) (Or.inl ⟨by rfl, ?_⟩) ?_ ?_
        rotate_left
        · intro w'
          go_simp
          with_reducible rfl
        rotate_left
        · (try simp only [Act.put, List.setIfInBounds_toArray, List.set_cons_zero, List.set_cons_succ, i64_w, i32_w])
          rfl
        refine pure_ (i := 14) (N := some 92) (v := ?_) (a' := ?_) #[true, true, true, true, true, true, true, true, true, true, true, true, true, true, true, false, false, false, false, false, false, false, false, false, false, false, false, false, false, false] rfl rfl (by kernel_rfl) (fun _ _ _ h => h) (Or.inl ⟨by rfl, ?_⟩) ?_ ?_
        rotate_left
        · intro w'
          go_simp
          with_reducible rfl
        rotate_left
        · (try simp only [Act.put, List.setIfInBounds_toArray, List.set_cons_zero, List.set_cons_succ, i64_w, i32_w])
          rfl
        refine pure_ (i := 15) (N := some 93) (v := ?_) (a' := ?_) #[true, true, true, true, true, true, true, true, true, true, true, true, true, true, true, true, false, false, false, false, false, false, false, false, false, false, false, false, false, false] rfl rfl (by kernel_rfl) (fun _ _ _ h => h) (Or.inl ⟨by rfl, ?_⟩) ?_ ?_
        rotate_left
        · intro w'
          go_simp
          with_reducible rfl
        rotate_left
        · (try simp only [Act.put, List.setIfInBounds_toArray, List.set_cons_zero, List.set_cons_succ, i64_w, i32_w])
          rfl
        refine pure_ (i := 16) (N := some 94) (v := ?_) (a' := ?_) #[true, true, true, true, true, true, true, true, true, true, true, true, true, true, true, true, true, false, false, false, false, false, false, false, false, false, false, false, false, false] rfl rfl (by kernel_rfl) (fun _ _ _ h => h) (Or.inl ⟨by rfl, ?_⟩) ?_ ?_
        rotate_left
        · intro w'
          go_simp
          with_reducible rfl
        rotate_left
        · (try simp only [Act.put, List.setIfInBounds_toArray, List.set_cons_zero, List.set_cons_succ, i64_w, i32_w])
          rfl
        refine take_ (i := 17) (N := some 95) (v := ?_) (a' := ?_) #[true, true, true, true, true, true, true, true, true, true, true, true, true, true, true, true, true, true, false, false, false, false, false, false, false, false, false, false, false, false] rfl rfl (by kernel_rfl) (fun _ _ _ h => h) (Or.inl ⟨by rfl, ?_⟩) hHeld ?_ ?_
        rotate_left
        · rintro w' hS
          have e65 := (st_cell hS 0 rfl 65).trans (stL_ended hs)
          rw [HEE.out] at e65
          have e66 := (st_cell hS 4 rfl 66).trans (stL_val hs)
          have HM := mchC hS 2 rfl
          have x66 := (HM.2.1 66 (by decide)).trans (stL_val HM.1)
          rw [HFX.out.2.2.1] at x66
          clear HM
          go_simp
          with_reducible rfl
        rotate_left
        · (try simp only [Act.put, List.setIfInBounds_toArray, List.set_cons_zero, List.set_cons_succ, i64_w, i32_w])
          rfl
        refine pure_ (i := 18) (N := some 96) (v := ?_) (a' := ?_) #[true, true, true, true, true, true, true, true, true, true, true, true, true, true, true, true, true, true, true, false, false, false, false, false, false, false, false, false, false, false] rfl rfl (by kernel_rfl) (fun _ _ _ h => h) (Or.inl ⟨by rfl, ?_⟩) ?_ ?_
        rotate_left
        · intro w'
          go_simp
          with_reducible rfl
        rotate_left
        · (try simp only [Act.put, List.setIfInBounds_toArray, List.set_cons_zero, List.set_cons_succ, i64_w, i32_w])
          rfl
        refine take_ (i := 19) (N := some 97) (v := ?_) (a' := ?_) #[true, true, true, true, true, true, true, true, true, true, true, true, true, true, true, true, true, true, true, true, false, false, false, false, false, false, false, false, false, false] rfl rfl (by kernel_rfl) (fun _ _ _ h => h) (Or.inl ⟨by rfl, ?_⟩) hHeld ?_ ?_
        rotate_left
        · rintro w' hS
          have e65 := (st_cell hS 0 rfl 65).trans (stL_ended hs)
          rw [HEE.out] at e65
          have e66 := (st_cell hS 4 rfl 66).trans (stL_val hs)
          have HM := mchC hS 2 rfl
          have x66 := (HM.2.1 66 (by decide)).trans (stL_val HM.1)
          rw [HFX.out.2.2.1] at x66
          clear HM
          go_simp
          with_reducible rfl
        rotate_left
        · (try simp only [Act.put, List.setIfInBounds_toArray, List.set_cons_zero, List.set_cons_succ, i64_w, i32_w])
          rfl
        refine pure_ (i := 20) (N := some 98) (v := ?_) (a' := ?_) #[true, true, true, true, true, true, true, true, true, true, true, true, true, true, true, true, true, true, true, true, true, false, false, false, false, false, false, false, false, false] rfl rfl (by kernel_rfl) (fun _ _ _ h => h) (Or.inl ⟨by rfl, ?_⟩) ?_ ?_
        rotate_left
        · intro w'
          go_simp
          with_reducible rfl
        rotate_left
        · (try simp only [Act.put, List.setIfInBounds_toArray, List.set_cons_zero, List.set_cons_succ, i64_w, i32_w])
          rfl
        refine pure_ (i := 21) (N := some 99) (v := ?_) (a' := ?_) #[true, true, true, true, true, true, true, true, true, true, true, true, true, true, true, true, true, true, true, true, true, true, false, false, false, false, false, false, false, false] rfl rfl (by kernel_rfl) (fun _ _ _ h => h) (Or.inl ⟨by rfl, ?_⟩) ?_ ?_
        rotate_left
        · intro w'
          go_simp
          with_reducible rfl
        rotate_left
        · (try simp only [Act.put, List.setIfInBounds_toArray, List.set_cons_zero, List.set_cons_succ, i64_w, i32_w])
          rfl
        refine pure_ (i := 22) (N := some 100) (v := ?_) (a' := ?_) #[true, true, true, true, true, true, true, true, true, true, true, true, true, true, true, true, true, true, true, true, true, true, true, false, false, false, false, false, false, false] rfl rfl (by kernel_rfl) (fun _ _ _ h => h) (Or.inl ⟨by rfl, ?_⟩) ?_ ?_
        rotate_left
        · intro w'
          go_simp
          with_reducible rfl
        rotate_left
        · (try simp only [Act.put, List.setIfInBounds_toArray, List.set_cons_zero, List.set_cons_succ, i64_w, i32_w])
          rfl
        refine pure_ (i := 23) (N := some 101) (v := ?_) (a' := ?_) #[true, true, true, true, true, true, true, true, true, true, true, true, true, true, true, true, true, true, true, true, true, true, true, true, false, false, false, false, false, false] rfl rfl (by kernel_rfl) (fun _ _ _ h => h) (Or.inl ⟨by rfl, ?_⟩) ?_ ?_
        rotate_left
        · intro w'
          go_simp
          with_reducible rfl
        rotate_left
        · (try simp only [Act.put, List.setIfInBounds_toArray, List.set_cons_zero, List.set_cons_succ, i64_w, i32_w])
          rfl
        refine pure_ (i := 24) (N := some 102) (v := ?_) (a' := ?_) #[true, true, true, true, true, true, true, true, true, true, true, true, true, true, true, true, true, true, true, true, true, true, true, true, true, false, false, false, false, false] rfl rfl (by kernel_rfl) (fun _ _ _ h => h) (Or.inl ⟨by rfl, ?_⟩) ?_ ?_
        rotate_left
        · intro w'
          go_simp
          with_reducible rfl
        rotate_left
        · (try simp only [Act.put, List.setIfInBounds_toArray, List.set_cons_zero, List.set_cons_succ, i64_w, i32_w])
          rfl
        refine last_ (i := 25) (N := some 103) #[true, true, true, true, true, true, true, true, true, true, true, true, true, true, true, true, true, true, true, true, true, true, true, true, true, true, false, false, false, false] rfl rfl (by kernel_rfl) (by decide) (fun K hK => ?_)
        refine goes_ Try.func15 (by kernel_rfl) rfl #[.pointer (some ⟨g, 0, none⟩), .agg #[.int .i64 0, .int .i64 0]] (by rfl) rfl rfl (by (try simp only [List.map_toArray, List.map_cons, List.map_nil]); first | done | rfl) ?_
        replace HS := HS.front 2 rfl
        have HDB := deed_calls (sites := (sitesF code 0)) (deed := 0) (tq := 0) (X := X) (fun w h => Kd.C_below hC (h.old 6 rfl)) (fun w h => h.C 2 rfl) HFI.out.fit (by have := sitesF_len code 0; have := HFI.out.cl; omega) (by have := HFX.out.2.2.2.1; omega) (by have := HFX.out.2.2.2.2.1; omega) HS
        rw [HFX.out.2.2.2.2.2] at HDB
        refine HDB.mono ?_
        clear HS HDB
        rintro e w ⟨v, rfl, HS⟩
        obtain ⟨Vd, cd_, rfl⟩ := HS.slice 0 rfl
        refine ⟨_, rfl, ?_⟩
        refine hK.out _ _ ?_
        clear hK K
        refine norm_ (a' := ?_) ?_ ?_
        rotate_left
        · show Act.put _ _ _ = _
          (try simp only [Act.put, List.setIfInBounds_toArray, List.set_cons_zero, List.set_cons_succ, i64_w, i32_w])
          rfl
        refine pure_ (i := 26) (N := some 104) (v := ?_) (a' := ?_) #[true, true, true, true, true, true, true, true, true, true, true, true, true, true, true, true, true, true, true, true, true, true, true, true, true, true, true, false, false, false] rfl rfl (by kernel_rfl) (fun _ _ _ h => h) (Or.inl ⟨by rfl, ?_⟩) ?_ ?_
        rotate_left
        · intro w'
          go_simp
          with_reducible rfl
        rotate_left
        · (try simp only [Act.put, List.setIfInBounds_toArray, List.set_cons_zero, List.set_cons_succ, i64_w, i32_w])
          rfl
        refine pure_ (i := 27) (N := some 105) (v := ?_) (a' := ?_) #[true, true, true, true, true, true, true, true, true, true, true, true, true, true, true, true, true, true, true, true, true, true, true, true, true, true, true, true, false, false] rfl rfl (by kernel_rfl) (fun _ _ _ h => h) (Or.inl ⟨by rfl, ?_⟩) ?_ ?_
        rotate_left
        · intro w'
          go_simp
          with_reducible rfl
        rotate_left
        · (try simp only [Act.put, List.setIfInBounds_toArray, List.set_cons_zero, List.set_cons_succ, i64_w, i32_w])
          rfl
        refine pure_ (i := 28) (N := some 106) (v := ?_) (a' := ?_) #[true, true, true, true, true, true, true, true, true, true, true, true, true, true, true, true, true, true, true, true, true, true, true, true, true, true, true, true, true, false] rfl rfl (by kernel_rfl) (fun _ _ _ h => h) (Or.inl ⟨by rfl, ?_⟩) ?_ ?_
        rotate_left
        · intro w'
          go_simp
          with_reducible rfl
        rotate_left
        · (try simp only [Act.put, List.setIfInBounds_toArray, List.set_cons_zero, List.set_cons_succ, i64_w, i32_w])
          rfl
        refine pure_ (i := 29) (N := some 8) (v := ?_) (a' := ?_) #[true, true, true, true, true, true, true, true, true, true, true, true, true, true, true, true, true, true, true, true, true, true, true, true, true, true, true, true, true, true] rfl rfl (by kernel_rfl) (fun _ _ _ h => h) (Or.inl ⟨by rfl, ?_⟩) ?_ ?_
        rotate_left
        · intro w'
          go_simp
          with_reducible rfl
        rotate_left
        · (try simp only [Act.put, List.setIfInBounds_toArray, List.set_cons_zero, List.set_cons_succ, i64_w, i32_w])
          rfl
        refine done_ (by kernel_rfl) ?_
        clear hHeld
        go_wp2
        go_ret
        exact ⟨rfl, HS.old 8 rfl⟩

end
theorem ends_walk {H : Type} {enc : TypeId × Value → H} {d0 d1 d3 : DataW H} {p0 p1 p3 : List MemPlace} (v0 v1 : Value) (a2 : Int) (v3 : Value) (W : World) (h0 : Arg enc Try.prog W 25 v0 d0 p0) (h1 : Arg enc Try.prog W 26 v1 d1 p1) (_ : (Lit.int .i64 a2).wf = true) (h3 : Arg enc Try.prog W 62 v3 d3 p3) :
    Calls Try.prog 7 #[v0, v1, .int .i64 a2, v3] W fun e w' => e = .returned (.bool true) ∧ Below W.heap.size W w' := by
  obtain ⟨Ac, cc, code, Aa, ca, arrs, st, mem, rfl, hcc, hca, hC, hA, _⟩ := open_img h0
  obtain ⟨Ai, ci, ins, rfl, hci, hI⟩ := open_rows h1
  obtain ⟨As, cs, script, rfl, _, hS⟩ := open_script h3
  obtain ⟨b, hb, hF⟩ := few_tells code arrs st mem ins
  cases b with
  | false => exact ends_few a2 W hC hcc hA hca hI hci hb
  | true =>
    by_cases hx : 60 < (script.length : Int)
    · exact ends_long a2 W hC hcc hA hca hI hci hb (decide_eq_true hx)
    · cases he : (wRun code 60 (beginS st, startF ins arrs mem)).1.ended with
      | false => exact ends_noend a2 W hC hcc hA hca hI hci hb (hF rfl) (decide_eq_false hx) he
      | true => exact ends_main a2 W hC hcc hA hca hI hci hb (hF rfl) hS (decide_eq_false hx) he
end Go.Proofs.Ytiafbpbbhgpjkaa.B
