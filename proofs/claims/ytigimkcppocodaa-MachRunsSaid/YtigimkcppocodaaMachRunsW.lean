/- MachRuns: a run is its steps, until the end, or the fuel's: its walk. -/
import Derived.Test.YtigimkcppocodaaMachSame
namespace Go.Proofs.Ytigimkcppocodaa.B
open Go.RowKit Go.Proofs.Ytigimkcppocodaa.Mine Go.Proofs.Ytigimkcppocodaa.Sep Go.Proofs.YtigimkcppocodaaW.PrintWords Go.Proofs.YtigimkcppocodaaW.PrintLast Go.Proofs.YtigimkcppocodaaW.PrintMore
set_option linter.unusedVariables false
set_option linter.unusedSimpArgs false
section
variable {Ac : Option Addr} {cc : Nat} {code : List S58} {Aa : Option Addr} {ca : Nat} {arrs : List S64} {st mem : Int} {Ai : Option Addr} {ci : Nat} {ins : List (List Int)}
set_option maxRecDepth 100000 in
set_option maxHeartbeats 2000000 in
theorem runs_big0 (fuel : Int) (W : World)  (q0 : 60 < code.length) :
    Calls Try.prog 4 #[.agg #[.slice Ac code.length cc, .slice Aa arrs.length ca, .int .i64 st, .int .i64 mem], .slice Ai ins.length ci, .int .i64 fuel] W fun e W' => e = .returned (.bool true) ∧ Below W.heap.size W W' := by
  have HS := Sat.start W
  have g0 : decide (60 < (code.length : Int)) = true := decide_eq_true (by omega)
  go_enter Try.func4, Try.ntmps4
  go_upto_region 1 with ((with_reducible refine gate_dst (N := 3) rfl ?_); go_must (refine ev_box HS rfl (N := 3) rfl (cs := #[.slice Ac code.length cc, .slice Aa arrs.length ca, .int .i64 st, .int .i64 mem]) (t := 25) ?hrun ?_); (case hrun => first | (go_simp; done) | (go_simp; rfl)); clear HS; intro gb w HS)
  go_upto_region 3 with (go_at_call 9; (with_reducible refine (head_calls HS).mono ?_); rintro e w_ ⟨rfl, HS_⟩; clear HS; have HS := HS_; clear HS_)
  have cb := HS.cell 0 rfl
  go_wp2
  go_ret
  exact ⟨rfl, HS.old 1 rfl⟩
set_option maxRecDepth 100000 in
set_option maxHeartbeats 2000000 in
theorem runs_big1 (fuel : Int) (W : World) (q0 : code.length ≤ 60) (q1 : 70 < arrs.length) :
    Calls Try.prog 4 #[.agg #[.slice Ac code.length cc, .slice Aa arrs.length ca, .int .i64 st, .int .i64 mem], .slice Ai ins.length ci, .int .i64 fuel] W fun e W' => e = .returned (.bool true) ∧ Below W.heap.size W W' := by
  have HS := Sat.start W
  have g0 : decide (60 < (code.length : Int)) = false := decide_eq_false (by omega)
  have g1 : decide (70 < (arrs.length : Int)) = true := decide_eq_true (by omega)
  go_enter Try.func4, Try.ntmps4
  go_upto_region 1 with ((with_reducible refine gate_dst (N := 3) rfl ?_); go_must (refine ev_box HS rfl (N := 3) rfl (cs := #[.slice Ac code.length cc, .slice Aa arrs.length ca, .int .i64 st, .int .i64 mem]) (t := 25) ?hrun ?_); (case hrun => first | (go_simp; done) | (go_simp; rfl)); clear HS; intro gb w HS)
  go_upto_region 3 with (go_at_call 9; (with_reducible refine (head_calls HS).mono ?_); rintro e w_ ⟨rfl, HS_⟩; clear HS; have HS := HS_; clear HS_)
  have cb := HS.cell 0 rfl
  go_wp2
  go_ret
  exact ⟨rfl, HS.old 1 rfl⟩
set_option maxRecDepth 100000 in
set_option maxHeartbeats 2000000 in
theorem runs_big2 (fuel : Int) (W : World) (q0 : code.length ≤ 60) (q1 : arrs.length ≤ 70) (q2 : 20 < ins.length) :
    Calls Try.prog 4 #[.agg #[.slice Ac code.length cc, .slice Aa arrs.length ca, .int .i64 st, .int .i64 mem], .slice Ai ins.length ci, .int .i64 fuel] W fun e W' => e = .returned (.bool true) ∧ Below W.heap.size W W' := by
  have HS := Sat.start W
  have g0 : decide (60 < (code.length : Int)) = false := decide_eq_false (by omega)
  have g1 : decide (70 < (arrs.length : Int)) = false := decide_eq_false (by omega)
  have g2 : decide (20 < (ins.length : Int)) = true := decide_eq_true (by omega)
  go_enter Try.func4, Try.ntmps4
  go_upto_region 1 with ((with_reducible refine gate_dst (N := 3) rfl ?_); go_must (refine ev_box HS rfl (N := 3) rfl (cs := #[.slice Ac code.length cc, .slice Aa arrs.length ca, .int .i64 st, .int .i64 mem]) (t := 25) ?hrun ?_); (case hrun => first | (go_simp; done) | (go_simp; rfl)); clear HS; intro gb w HS)
  go_upto_region 3 with (go_at_call 9; (with_reducible refine (head_calls HS).mono ?_); rintro e w_ ⟨rfl, HS_⟩; clear HS; have HS := HS_; clear HS_)
  have cb := HS.cell 0 rfl
  go_wp2
  go_ret
  exact ⟨rfl, HS.old 1 rfl⟩
set_option maxRecDepth 100000 in
set_option maxHeartbeats 2000000 in
theorem runs_big3 (fuel : Int) (W : World) (q0 : code.length ≤ 60) (q1 : arrs.length ≤ 70) (q2 : ins.length ≤ 20) (q3 : 5000 < mem) :
    Calls Try.prog 4 #[.agg #[.slice Ac code.length cc, .slice Aa arrs.length ca, .int .i64 st, .int .i64 mem], .slice Ai ins.length ci, .int .i64 fuel] W fun e W' => e = .returned (.bool true) ∧ Below W.heap.size W W' := by
  have HS := Sat.start W
  have g0 : decide (60 < (code.length : Int)) = false := decide_eq_false (by omega)
  have g1 : decide (70 < (arrs.length : Int)) = false := decide_eq_false (by omega)
  have g2 : decide (20 < (ins.length : Int)) = false := decide_eq_false (by omega)
  have g3 : decide (5000 < (mem : Int)) = true := decide_eq_true (by omega)
  go_enter Try.func4, Try.ntmps4
  go_upto_region 1 with ((with_reducible refine gate_dst (N := 3) rfl ?_); go_must (refine ev_box HS rfl (N := 3) rfl (cs := #[.slice Ac code.length cc, .slice Aa arrs.length ca, .int .i64 st, .int .i64 mem]) (t := 25) ?hrun ?_); (case hrun => first | (go_simp; done) | (go_simp; rfl)); clear HS; intro gb w HS)
  go_upto_region 3 with (go_at_call 9; (with_reducible refine (head_calls HS).mono ?_); rintro e w_ ⟨rfl, HS_⟩; clear HS; have HS := HS_; clear HS_)
  have cb := HS.cell 0 rfl
  go_wp2
  go_ret
  exact ⟨rfl, HS.old 1 rfl⟩
set_option maxRecDepth 100000 in
set_option maxHeartbeats 2000000 in
theorem runs_bad (fuel : Int) (W : World) (hC : Kd.C k58 W Ac code.length code) (hcc : code.length ≤ cc) (hA : Kd.C k64 W Aa arrs.length arrs) (hca : arrs.length ≤ ca) (hI : Kd.C (Kd.slice 2 (Kd.int .i64)) W Ai ins.length ins) (hci : ins.length ≤ ci) (q0 : code.length ≤ 60) (q1 : arrs.length ≤ 70) (q2 : ins.length ≤ 20) (q3 : mem ≤ 5000) {k : Nat} (hr : image_Image_Right.f k code arrs st mem = some false) :
    Calls Try.prog 4 #[.agg #[.slice Ac code.length cc, .slice Aa arrs.length ca, .int .i64 st, .int .i64 mem], .slice Ai ins.length ci, .int .i64 fuel] W fun e W' => e = .returned (.bool true) ∧ Below W.heap.size W W' := by
  have HS := Sat.start W
  have HR := Aside0.mk hr
  clear hr
  have g0 : decide (60 < (code.length : Int)) = false := decide_eq_false (by omega)
  have g1 : decide (70 < (arrs.length : Int)) = false := decide_eq_false (by omega)
  have g2 : decide (20 < (ins.length : Int)) = false := decide_eq_false (by omega)
  have g3 : decide (5000 < (mem : Int)) = false := decide_eq_false (by omega)
  obtain ⟨fu, hfu⟩ : ∃ fu, fu = Go.bits .and .i64 fuel 255 := ⟨_, rfl⟩
  have hfu0 : 0 ≤ fu := by rw [hfu, and255]; omega
  have hfu1 : fu ≤ 255 := by rw [hfu, and255]; omega
  have HFU := Aside0.mk hfu
  clear hfu
  go_enter Try.func4, Try.ntmps4
  go_upto_region 1 with ((with_reducible refine gate_dst (N := 3) rfl ?_); go_must (refine ev_box HS rfl (N := 3) rfl (cs := #[.slice Ac code.length cc, .slice Aa arrs.length ca, .int .i64 st, .int .i64 mem]) (t := 25) ?hrun ?_); (case hrun => first | (go_simp; done) | (go_simp; rfl)); clear HS; intro gb w HS)
  go_upto_region 3 with (go_at_call 9; (with_reducible refine (head_calls HS).mono ?_); rintro e w_ ⟨rfl, HS_⟩; clear HS; have HS := HS_; clear HS_)
  have cb := HS.cell 0 rfl
  have R := run_bad (ca := ca) (ci := ci) (ins := ins) (Ai := Ai) fu (fun w h => Kd.C_below hC (h.old 1 rfl)) hcc (fun w h => Kd.C_below hA (h.old 1 rfl)) hca HR.out HS
  rw [HFU.out] at R
  have HRR := Aside0.mk R
  clear R
  go_upto_region 7 with (first | (go_at_call 17; (with_reducible refine HRR.out.mono ?_); rintro e w3 ⟨rfl, HS_⟩; clear HS; have HS := HS_; clear HS_) | ((with_reducible refine gate_dst (N := 7) rfl ?_); go_must (refine ev_box HS rfl (N := 7) rfl (cs := (stL z0).toArray) (t := 32) ?hrun ?_); (case hrun => first | (go_simp; done) | (go_simp; rfl)); clear HS; intro g7 w HS) | ((with_reducible refine gate_store (t := 32) (p := 7) rfl ?_); go_must (refine ev_store HS 0 rfl rfl 32 (.tmp 7) (.tmp 44) rfl rfl rfl (stL (z0)) rfl (len32 (s := z0) rfl) rfl (stL_one _) ?_); clear HS; intro w HS))
  have cb := HS.cell 1 rfl
  have HC := Aside0.mk (Kd.C_below hC (HS.old 2 rfl))
  have HA := Aside0.mk (Kd.C_below hA (HS.old 2 rfl))
  go_wp2_with (go_at_call 18; (with_reducible refine (image_Image_Right.calls k _ _ code _ _ arrs st mem false _ HC.out hcc HA.out hca HR.out).mono ?_); rintro e w_ ⟨rfl, hb⟩; replace HS := HS.below hb; clear hb)
  go_ret
  exact ⟨rfl, HS.old 2 rfl⟩
set_option maxRecDepth 100000 in
set_option maxHeartbeats 2000000 in
theorem runs_few (fuel : Int) (W : World) (hC : Kd.C k58 W Ac code.length code) (hcc : code.length ≤ cc) (hA : Kd.C k64 W Aa arrs.length arrs) (hca : arrs.length ≤ ca) (hI : Kd.C (Kd.slice 2 (Kd.int .i64)) W Ai ins.length ins) (hci : ins.length ≤ ci) (q0 : code.length ≤ 60) (q1 : arrs.length ≤ 70) (q2 : ins.length ≤ 20) (q3 : mem ≤ 5000) {k : Nat} (hr : image_Image_Right.f k code arrs st mem = some true) (hf : palingslaw19_Few.f 500 code arrs st mem ins = some false) :
    Calls Try.prog 4 #[.agg #[.slice Ac code.length cc, .slice Aa arrs.length ca, .int .i64 st, .int .i64 mem], .slice Ai ins.length ci, .int .i64 fuel] W fun e W' => e = .returned (.bool true) ∧ Below W.heap.size W W' := by
  have HS := Sat.start W
  have hR := right_true hr
  have HR := Aside0.mk hr
  have HF := Aside0.mk hf
  clear hr hf
  have g0 : decide (60 < (code.length : Int)) = false := decide_eq_false (by omega)
  have g1 : decide (70 < (arrs.length : Int)) = false := decide_eq_false (by omega)
  have g2 : decide (20 < (ins.length : Int)) = false := decide_eq_false (by omega)
  have g3 : decide (5000 < (mem : Int)) = false := decide_eq_false (by omega)
  obtain ⟨fu, hfu⟩ : ∃ fu, fu = Go.bits .and .i64 fuel 255 := ⟨_, rfl⟩
  have hfu0 : 0 ≤ fu := by rw [hfu, and255]; omega
  have hfu1 : fu ≤ 255 := by rw [hfu, and255]; omega
  have HFU := Aside0.mk hfu
  clear hfu
  go_enter Try.func4, Try.ntmps4
  go_upto_region 1 with ((with_reducible refine gate_dst (N := 3) rfl ?_); go_must (refine ev_box HS rfl (N := 3) rfl (cs := #[.slice Ac code.length cc, .slice Aa arrs.length ca, .int .i64 st, .int .i64 mem]) (t := 25) ?hrun ?_); (case hrun => first | (go_simp; done) | (go_simp; rfl)); clear HS; intro gb w HS)
  go_upto_region 3 with (go_at_call 9; (with_reducible refine (head_calls HS).mono ?_); rintro e w_ ⟨rfl, HS_⟩; clear HS; have HS := HS_; clear HS_)
  have cb := HS.cell 0 rfl
  have hrl : (runF code fu (beginS st) (startF ins arrs mem)).1.regs.length = 64 := runN_regs _ _ _ _ _ (begin_len st)
  have hol : (runF code fu (beginS st) (startF ins arrs mem)).2.2.length ≤ 3 * fu.toNat := runN_obs _ _ _ _ _ (begin_len st)
  obtain ⟨r, hr⟩ : ∃ r, r = runF code fu (beginS st) (startF ins arrs mem) := ⟨_, rfl⟩
  rw [← hr] at hrl hol
  have R := run_calls (ca := ca) (ci := ci) fu hfu0 (by omega) (fun w h => Kd.C_below hC (h.old 1 rfl)) hcc (fun w h => Kd.C_below hA (h.old 1 rfl)) hca (fun w h => Kd.C_below hI (h.old 1 rfl)) HR.out HS
  rw [← hr] at R
  have HQ := Aside0.mk hr
  have HFF := HFU.out
  rw [HFF] at R
  have HRR := Aside0.mk R
  clear R hr HFF
  go_upto_region 7 with (first | (go_at_call 17; (with_reducible refine HRR.out.mono ?_); rintro e w3 ⟨Am, nm, cm, v, rfl, HS_⟩; clear HS; have HS := HS_; clear HS_) | ((with_reducible refine gate_dst (N := 7) rfl ?_); go_must (refine ev_box HS rfl (N := 7) rfl (cs := (stL z0).toArray) (t := 32) ?hrun ?_); (case hrun => first | (go_simp; done) | (go_simp; rfl)); clear HS; intro g7 w HS) | ((with_reducible refine gate_store (t := 32) (p := 7) rfl ?_); go_must (refine ev_store HS 0 rfl rfl 32 (.tmp 7) (.tmp 44) rfl rfl rfl (stL (r.1)) rfl (len32 hrl) (by simp [stL_length hrl]; rfl) (stL_one _) ?_); clear HS; intro w HS))
  clear HRR
  have cb := HS.cell 3 rfl
  have HC := Aside0.mk (Kd.C_below hC (HS.old 4 rfl))
  have HA := Aside0.mk (Kd.C_below hA (HS.old 4 rfl))
  go_upto_region 9 with (go_at_call 18; (with_reducible refine (image_Image_Right.calls k _ _ code _ _ arrs st mem true _ HC.out hcc HA.out hca HR.out).mono ?_); rintro e w_ ⟨rfl, hb⟩; replace HS := HS.below hb; clear hb)
  clear HC HA
  have cb := HS.cell 3 rfl
  have HC := Aside0.mk (Kd.C_below hC (HS.old 4 rfl))
  have HA := Aside0.mk (Kd.C_below hA (HS.old 4 rfl))
  have HI := Aside0.mk (Kd.C_below hI (HS.old 4 rfl))

  go_wp2_with (go_at_call 10; (with_reducible refine (palingslaw19_Few.calls 500 _ _ code _ _ arrs st mem _ _ ins false _ HC.out hcc HA.out hca HI.out hci HF.out).mono ?_); rintro e w2 ⟨rfl, hb⟩; replace HS := HS.below hb; clear hb)
  go_ret
  exact ⟨rfl, HS.old 4 rfl⟩
set_option maxRecDepth 100000 in
set_option maxHeartbeats 2000000 in
theorem runs_main (fuel : Int) (W : World) (hC : Kd.C k58 W Ac code.length code) (hcc : code.length ≤ cc) (hA : Kd.C k64 W Aa arrs.length arrs) (hca : arrs.length ≤ ca) (hI : Kd.C (Kd.slice 2 (Kd.int .i64)) W Ai ins.length ins) (hci : ins.length ≤ ci) (q0 : code.length ≤ 60) (q1 : arrs.length ≤ 70) (q2 : ins.length ≤ 20) (q3 : mem ≤ 5000) {k : Nat} (hr : image_Image_Right.f k code arrs st mem = some true) (hf : palingslaw19_Few.f 500 code arrs st mem ins = some true) :
    Calls Try.prog 4 #[.agg #[.slice Ac code.length cc, .slice Aa arrs.length ca, .int .i64 st, .int .i64 mem], .slice Ai ins.length ci, .int .i64 fuel] W fun e W' => e = .returned (.bool true) ∧ Below W.heap.size W W' := by
  have HS := Sat.start W
  have hR := right_true hr
  have HR := Aside0.mk hr
  have HF := Aside0.mk hf
  clear hr hf
  have g0 : decide (60 < (code.length : Int)) = false := decide_eq_false (by omega)
  have g1 : decide (70 < (arrs.length : Int)) = false := decide_eq_false (by omega)
  have g2 : decide (20 < (ins.length : Int)) = false := decide_eq_false (by omega)
  have g3 : decide (5000 < (mem : Int)) = false := decide_eq_false (by omega)
  obtain ⟨fu, hfu⟩ : ∃ fu, fu = Go.bits .and .i64 fuel 255 := ⟨_, rfl⟩
  have hfu0 : 0 ≤ fu := by rw [hfu, and255]; omega
  have hfu1 : fu ≤ 255 := by rw [hfu, and255]; omega
  have HFU := Aside0.mk hfu
  clear hfu
  go_enter Try.func4, Try.ntmps4
  go_upto_region 1 with ((with_reducible refine gate_dst (N := 3) rfl ?_); go_must (refine ev_box HS rfl (N := 3) rfl (cs := #[.slice Ac code.length cc, .slice Aa arrs.length ca, .int .i64 st, .int .i64 mem]) (t := 25) ?hrun ?_); (case hrun => first | (go_simp; done) | (go_simp; rfl)); clear HS; intro gb w HS)
  go_upto_region 3 with (go_at_call 9; (with_reducible refine (head_calls HS).mono ?_); rintro e w_ ⟨rfl, HS_⟩; clear HS; have HS := HS_; clear HS_)
  have cb := HS.cell 0 rfl
  have hrl : (runF code fu (beginS st) (startF ins arrs mem)).1.regs.length = 64 := runN_regs _ _ _ _ _ (begin_len st)
  have hol : (runF code fu (beginS st) (startF ins arrs mem)).2.2.length ≤ 3 * fu.toNat := runN_obs _ _ _ _ _ (begin_len st)
  obtain ⟨r, hr⟩ : ∃ r, r = runF code fu (beginS st) (startF ins arrs mem) := ⟨_, rfl⟩
  rw [← hr] at hrl hol
  have R := run_calls (ca := ca) (ci := ci) fu hfu0 (by omega) (fun w h => Kd.C_below hC (h.old 1 rfl)) hcc (fun w h => Kd.C_below hA (h.old 1 rfl)) hca (fun w h => Kd.C_below hI (h.old 1 rfl)) HR.out HS
  rw [← hr] at R
  have HQ := Aside0.mk hr
  have HFF := HFU.out
  rw [HFF] at R
  have HRR := Aside0.mk R
  clear R hr HFF
  go_upto_region 7 with (first | (go_at_call 17; (with_reducible refine HRR.out.mono ?_); rintro e w3 ⟨Am, nm, cm, v, rfl, HS_⟩; clear HS; have HS := HS_; clear HS_) | ((with_reducible refine gate_dst (N := 7) rfl ?_); go_must (refine ev_box HS rfl (N := 7) rfl (cs := (stL z0).toArray) (t := 32) ?hrun ?_); (case hrun => first | (go_simp; done) | (go_simp; rfl)); clear HS; intro g7 w HS) | ((with_reducible refine gate_store (t := 32) (p := 7) rfl ?_); go_must (refine ev_store HS 0 rfl rfl 32 (.tmp 7) (.tmp 44) rfl rfl rfl (stL (r.1)) rfl (len32 hrl) (by simp [stL_length hrl]; rfl) (stL_one _) ?_); clear HS; intro w HS))
  clear HRR
  have cb := HS.cell 3 rfl
  have HC := Aside0.mk (Kd.C_below hC (HS.old 4 rfl))
  have HA := Aside0.mk (Kd.C_below hA (HS.old 4 rfl))
  go_upto_region 9 with (go_at_call 18; (with_reducible refine (image_Image_Right.calls k _ _ code _ _ arrs st mem true _ HC.out hcc HA.out hca HR.out).mono ?_); rintro e w_ ⟨rfl, hb⟩; replace HS := HS.below hb; clear hb)
  clear HC HA
  have cb := HS.cell 3 rfl
  have HC := Aside0.mk (Kd.C_below hC (HS.old 4 rfl))
  have HA := Aside0.mk (Kd.C_below hA (HS.old 4 rfl))
  have HI := Aside0.mk (Kd.C_below hI (HS.old 4 rfl))

  go_upto_region 11 with (go_at_call 10; (with_reducible refine (palingslaw19_Few.calls 500 _ _ code _ _ arrs st mem _ _ ins true _ HC.out hcc HA.out hca HI.out hci HF.out).mono ?_); rintro e w2 ⟨rfl, hb⟩; replace HS := HS.below hb; clear hb)
  clear HC HA HI
  have cb := HS.cell 3 rfl
  have hms0 := hR.s0
  have hms1 := hR.s1
  have hal : arrs.length ≤ 1000 := by omega
  go_upto_region 12 with (first | (go_at_call 11; (with_reducible refine (begin_calls st mem HS).mono ?_); rintro e w_ ⟨rfl, HS_⟩; clear HS; have HS := HS_; clear HS_) | ((with_reducible refine gate_dst (N := 11) rfl ?_); go_must (refine ev_box HS rfl (N := 11) rfl (cs := (stL z0).toArray) (t := 32) ?hrun ?_); (case hrun => first | (go_simp; done) | (go_simp; rfl)); clear HS; intro g11 w HS) | ((with_reducible refine gate_store (t := 32) (p := 11) rfl ?_); go_must (refine ev_store HS 0 rfl rfl 32 (.tmp 11) (.tmp 68) rfl rfl rfl (stL (beginS st)) rfl (len32 (begin_len st)) (by simp [stL_length (begin_len st)]; rfl) (stL_one _) ?_); clear HS; intro w HS))
  have cb := HS.cell 4 rfl
  go_upto_region 13 with (go_at_call 12; refine (start_calls (ca := ca) (ci := ci) (fun w h => Kd.C_below hA (h.old 5 rfl)) (fun w h => Kd.C_below hI (h.old 5 rfl)) hR.liesM hal (by omega) (by omega) HS).mono ?_; rintro e w4 ⟨Ao, no, co, rfl, HS_⟩; clear HS; have HS := HS_; clear HS_)
  go_upto_region 14 with ((with_reducible refine gate_dst (N := 72) rfl ?_); go_must (refine ev_lit k53 (e := 53) HS rfl (N := 72) rfl (xs := ([] : List S53)) (inner := []) ?hrun (Reps.none _ _) (by first | decide | simp) ?_); (case hrun => first | (go_simp; done) | (go_simp; rfl)); clear HS; intro gz w HS)
  replace HS := ((HS.front 2 rfl).front 2 rfl).swap
  rw [← HFU.out]
  obtain ⟨r1, r2, r3⟩ := r
  dsimp only at HS hrl hol HQ ⊢
  go_wp2
  go_loopg [13, 14] (fu.toNat + 1) (fun kq v13 v14 w' => ∃ (i : Nat) (s : St) (own : List Int) (all : List S53), v14 = .int .i64 (i : Int) ∧ Aside0 (s.regs.length = 64 ∧ s.steps = (i : Int) ∧ i ≤ fu.toNat ∧ fu.toNat + 1 ≤ kq + i ∧ all.length ≤ 3 * i ∧ own.length = mem.toNat ∧
      (r1, r2, r3) = ((runN code fu (fu.toNat - i) s own).1, (runN code fu (fu.toNat - i) s own).2.1, all ++ (runN code fu (fu.toNat - i) s own).2.2)) ∧
      Aside0 (Sat W w' [blk g11 32 (stL s).toArray, row IW 2 (.slice Ao no co) own, row k53 53 v13 all, blk g7 32 (stL r1).toArray, row k53 53 v r3, row IW 2 (.slice Am nm cm) r2, blk gb 25 #[.slice Ac code.length cc, .slice Aa arrs.length ca, .int .i64 st, .int .i64 mem], old W]))
  case atStart => exact ⟨0, beginS st, startF ins arrs mem, [], rfl, ⟨begin_len st, rfl, by omega, by omega, by simp, startF_length _ _ _, HQ.out⟩, ⟨HS⟩⟩
  case round =>
    clear HS cb
    obtain ⟨i, s, own, all, rfl, HM, HS'⟩ := hrel
    have HS := HS'.out
    clear HS'
    have hs := HM.out.1
    have hown : own.length ≤ 10000 := by have := HM.out.2.2.2.2.2.1; omega
    have hall : all.length ≤ 10000 := by have := HM.out.2.2.2.2.1; have := HM.out.2.2.1; omega
    have HX := Aside0.mk (show (s.ended = true ∨ ¬ s.steps < fu) → r1 = s ∧ r2 = own ∧ r3 = all by
      intro h
      have h1 := HM.out.2.2.2.2.2.2
      rw [runN_end h, List.append_nil] at h1
      simp only [Prod.mk.injEq] at h1
      exact h1)
    cases gk with
    | zero => have := HM.out; omega
    | succ k1 =>
      have c65 := (st_cell HS 0 rfl 65).trans (stL_ended hs)
      have cb := HS.cell 6 rfl
      obtain ⟨I, hI_⟩ : ∃ I : Int, (i : Int) = I := ⟨_, rfl⟩
      rw [hI_]
      have HII := Aside0.mk hI_
      by_cases hlt : I < fu
      · have hltb : decide (I < fu) = true := decide_eq_true hlt
        by_cases he : s.ended = true
        · rw [he] at c65
          clear hI_
          have HE := HX.out (.inl he)
          obtain ⟨e1, e2, e3⟩ := HE
          subst e1 e2 e3
          skip
          obtain ⟨rfl, hcm⟩ := HS.cap 5 rfl
          obtain ⟨rfl, hco⟩ := HS.cap 1 rfl
          obtain ⟨Av, cv, rfl⟩ := HS.slice 4 rfl
          obtain ⟨Aw, cw, rfl⟩ := HS.slice 2 rfl
          have hcv := (HS.cap 4 rfl).2
          have hca2 := (HS.cap 2 rfl).2
          have hse := same_eql r1 hs
          have hle : decide (r1.steps ≤ fu) = true := decide_eq_true (by have := HM.out; omega)
          go_wp2_with (first | ((with_reducible refine gate_load (ty := 32) (p := 7) rfl ?_); (refine gate_guard (by rfl) ?_); dsimp only; go_must (refine ev_load HS 3 rfl rfl 32 (.tmp 7) rfl (N := 93) rfl rfl _ Try.underlying32 rfl (size32 hs) ?_)) | ((with_reducible refine gate_load (ty := 32) (p := 11) rfl ?_); (refine gate_guard (by rfl) ?_); dsimp only; go_must (refine ev_load HS 0 rfl rfl 32 (.tmp 11) rfl (N := 94) rfl rfl _ Try.underlying32 rfl (size32 hs) ?_)) | (go_at_call 15; (with_reducible refine (palingslaw19_words.calls 1000001 _ _ r2 _ _ r2 true _ (HS.C 5 rfl) hcm (HS.C 1 rfl) hco (words_same r2 (by omega))).mono ?_); rintro e w_ ⟨rfl, hd_⟩; replace HS := HS.below hd_.below; clear hd_) | (go_at_call 16; (with_reducible refine (palingslaw19_Seen.calls 1000001 _ _ r3 _ _ r3 true _ (HS.C 4 rfl) hcv (HS.C 2 rfl) hca2 (seen_same r3 (by omega))).mono ?_); rintro e w_ ⟨rfl, hd_⟩; replace HS := HS.below hd_.below; clear hd_; have s68 := (st_cell HS 3 rfl 68).trans (stL_steps hs); have s65 := (st_cell HS 3 rfl 65).trans (stL_ended hs); rw [he] at s65))
          go_ret
          exact ⟨rfl, HS.old 7 rfl⟩
        · have he : s.ended = false := by simpa using he
          rw [he] at c65
          have R := step_calls (wMem g11 Ao no co) (c := cc) (fun w h => Kd.C_below hC (h.old 5 rfl)) hR.fits trivial hs HS.join
          have hk := stepF_keeps wF code s own hs
          have hmem := stepF_mem code s own
          have hrun : runN code fu (fu.toNat - i) s own = ((runN code fu (fu.toNat - (i + 1)) (stepF wF code s own).1 (stepF wF code s own).2.1).1, (runN code fu (fu.toNat - (i + 1)) (stepF wF code s own).1 (stepF wF code s own).2.1).2.1, (stepF wF code s own).2.2 ++ (runN code fu (fu.toNat - (i + 1)) (stepF wF code s own).1 (stepF wF code s own).2.1).2.2) := by
            rw [show fu.toNat - i = fu.toNat - (i + 1) + 1 by omega, runN, if_neg (by rw [he, HM.out.2.1]; simp; omega)]
          obtain ⟨q, hq⟩ : ∃ q, q = stepF wF code s own := ⟨_, rfl⟩
          rw [← hq] at hk hrun hmem
          change Calls _ _ #[.pointer (some ⟨g11, 0, none⟩), .slice Ac code.length cc, .iface 35 (.slice Ao no co)] _ (DoPost (wMem g11 Ao no co) W _ (stepF wF code s own)) at R
          rw [← hq] at R
          clear hq
          have HRR := Aside0.mk R
          have HRUN := Aside0.mk hrun
          have hst := hk.2.1 he
          rw [w64 _ (by have := HM.out; omega) (by have := HM.out; omega)] at hst
          have HK := Aside0.mk (And.intro hk.1 (And.intro hst hmem))
          have hrl2 := hk.2.2
          have hol2 : all.length ≤ 1000 := by have := HM.out; omega
          clear R hrun hst hk he hmem hI_
          go_wp2_with (first | (go_at_call 13; (with_reducible refine HRR.out.mono ?_); rintro e w_ ⟨v0, rfl, HS_⟩; clear HS; have HS := Sat.split (HS_.front 1 rfl); clear HS_; obtain ⟨Av, cv, rfl⟩ := HS.slice 2 rfl) | ((with_reducible refine gate_builtin (b := .append) (xs := #[.tmp 83, .tmp 88]) rfl ?_); go_must (refine ev_append k53 HS 3 (.tmp 83) (.tmp 88) 37 53 (.agg #[.int .i64 0, .int .i64 0, .int .i64 0]) 24 rfl (HS.C 2 rfl) (fun _ _ h => h) rfl rfl rfl rfl Try.underlying37 info53 rfl (by decide) (by omega) ((by omega)) ?_); clear HS; intro vo w HS))
          go_roundg k1
          case measure => have := HM.out; omega
          case rel =>
            obtain ⟨m1, m2, m3, m4, m5, m6, m7⟩ := HM.out
            rw [HRUN.out] at m7
            refine ⟨i + 1, q.1, q.2.1, all ++ q.2.2, ?_, ⟨HK.out.1, by rw [HK.out.2.1, m2]; push_cast; rfl, by have := HII.out; omega, by omega, by rw [List.length_append]; omega, by rw [HK.out.2.2]; exact m6, by rw [m7, List.append_assoc]⟩, ⟨HS.erase 2⟩⟩
            · rw [← HII.out, w64 ((i : Int) + 1) (by omega) (by omega)]; rfl
      · have hltb : decide (I < fu) = false := decide_eq_false hlt
        by_cases he : s.ended = true
        · rw [he] at c65
          clear hI_
          have HE := HX.out (.inl he)
          obtain ⟨e1, e2, e3⟩ := HE
          subst e1 e2 e3
          skip
          obtain ⟨rfl, hcm⟩ := HS.cap 5 rfl
          obtain ⟨rfl, hco⟩ := HS.cap 1 rfl
          obtain ⟨Av, cv, rfl⟩ := HS.slice 4 rfl
          obtain ⟨Aw, cw, rfl⟩ := HS.slice 2 rfl
          have hcv := (HS.cap 4 rfl).2
          have hca2 := (HS.cap 2 rfl).2
          have hse := same_eql r1 hs
          have hle : decide (r1.steps ≤ fu) = true := decide_eq_true (by have := HM.out; omega)
          go_wp2_with (first | ((with_reducible refine gate_load (ty := 32) (p := 7) rfl ?_); (refine gate_guard (by rfl) ?_); dsimp only; go_must (refine ev_load HS 3 rfl rfl 32 (.tmp 7) rfl (N := 93) rfl rfl _ Try.underlying32 rfl (size32 hs) ?_)) | ((with_reducible refine gate_load (ty := 32) (p := 11) rfl ?_); (refine gate_guard (by rfl) ?_); dsimp only; go_must (refine ev_load HS 0 rfl rfl 32 (.tmp 11) rfl (N := 94) rfl rfl _ Try.underlying32 rfl (size32 hs) ?_)) | (go_at_call 15; (with_reducible refine (palingslaw19_words.calls 1000001 _ _ r2 _ _ r2 true _ (HS.C 5 rfl) hcm (HS.C 1 rfl) hco (words_same r2 (by omega))).mono ?_); rintro e w_ ⟨rfl, hd_⟩; replace HS := HS.below hd_.below; clear hd_) | (go_at_call 16; (with_reducible refine (palingslaw19_Seen.calls 1000001 _ _ r3 _ _ r3 true _ (HS.C 4 rfl) hcv (HS.C 2 rfl) hca2 (seen_same r3 (by omega))).mono ?_); rintro e w_ ⟨rfl, hd_⟩; replace HS := HS.below hd_.below; clear hd_; have s68 := (st_cell HS 3 rfl 68).trans (stL_steps hs); have s65 := (st_cell HS 3 rfl 65).trans (stL_ended hs); rw [he] at s65))
          go_ret
          exact ⟨rfl, HS.old 7 rfl⟩
        · have he : s.ended = false := by simpa using he
          rw [he] at c65
          have hnf : ¬ s.steps < fu := by rw [HM.out.2.1, hI_]; exact hlt
          have hsf : s.steps = fu := by have := HM.out; omega
          clear hI_
          have HE := HX.out (.inr hnf)
          obtain ⟨e1, e2, e3⟩ := HE
          subst e1 e2 e3
          have hsb : (r1.steps == fu) = true := beq_iff_eq.mpr hsf
          clear hsf hnf
          obtain ⟨rfl, hcm⟩ := HS.cap 5 rfl
          obtain ⟨rfl, hco⟩ := HS.cap 1 rfl
          obtain ⟨Av, cv, rfl⟩ := HS.slice 4 rfl
          obtain ⟨Aw, cw, rfl⟩ := HS.slice 2 rfl
          have hcv := (HS.cap 4 rfl).2
          have hca2 := (HS.cap 2 rfl).2
          have hse := same_eql r1 hs
          have hle : decide (r1.steps ≤ fu) = true := decide_eq_true (by have := HM.out; omega)
          go_wp2_with (first | ((with_reducible refine gate_load (ty := 32) (p := 7) rfl ?_); (refine gate_guard (by rfl) ?_); dsimp only; go_must (refine ev_load HS 3 rfl rfl 32 (.tmp 7) rfl (N := 93) rfl rfl _ Try.underlying32 rfl (size32 hs) ?_)) | ((with_reducible refine gate_load (ty := 32) (p := 11) rfl ?_); (refine gate_guard (by rfl) ?_); dsimp only; go_must (refine ev_load HS 0 rfl rfl 32 (.tmp 11) rfl (N := 94) rfl rfl _ Try.underlying32 rfl (size32 hs) ?_)) | (go_at_call 15; (with_reducible refine (palingslaw19_words.calls 1000001 _ _ r2 _ _ r2 true _ (HS.C 5 rfl) hcm (HS.C 1 rfl) hco (words_same r2 (by omega))).mono ?_); rintro e w_ ⟨rfl, hd_⟩; replace HS := HS.below hd_.below; clear hd_) | (go_at_call 16; (with_reducible refine (palingslaw19_Seen.calls 1000001 _ _ r3 _ _ r3 true _ (HS.C 4 rfl) hcv (HS.C 2 rfl) hca2 (seen_same r3 (by omega))).mono ?_); rintro e w_ ⟨rfl, hd_⟩; replace HS := HS.below hd_.below; clear hd_; have s68 := (st_cell HS 3 rfl 68).trans (stL_steps hs); have s65 := (st_cell HS 3 rfl 65).trans (stL_ended hs); rw [he] at s65))
          go_ret
          exact ⟨rfl, HS.old 7 rfl⟩
end
theorem runs_walk {H : Type} {enc : TypeId × Value → H} {d0 d1 : DataW H} {p0 p1 : List MemPlace} (v0 v1 : Value) (fuel : Int) (W : World) (h0 : Arg enc Try.prog W 25 v0 d0 p0) (h1 : Arg enc Try.prog W 26 v1 d1 p1) (_ : (Lit.int .i64 fuel).wf = true) :
    Calls Try.prog 4 #[v0, v1, .int .i64 fuel] W fun e w' => e = .returned (.bool true) ∧ Below W.heap.size W w' := by
  obtain ⟨Ac, cc, code, Aa, ca, arrs, st, mem, rfl, hcc, hca, hC, hA, _, _, _⟩ := open_img h0
  obtain ⟨Ai, ci, ins, rfl, hci, hI⟩ := open_rows h1
  by_cases q0 : code.length ≤ 60
  · by_cases q1 : arrs.length ≤ 70
    · by_cases q2 : ins.length ≤ 20
      · by_cases q3 : mem ≤ 5000
        · obtain ⟨b, hb⟩ := right_total code arrs st mem (by omega) (by omega) 200 (by omega)
          cases b with
          | false => exact runs_bad fuel W hC hcc hA hca hI hci q0 q1 q2 q3 hb
          | true =>
            obtain ⟨b2, hb2, hF⟩ := few_tells code arrs st mem ins
            cases b2 with
            | false => exact runs_few fuel W hC hcc hA hca hI hci q0 q1 q2 q3 hb hb2
            | true => exact runs_main fuel W hC hcc hA hca hI hci q0 q1 q2 q3 hb hb2
        · exact runs_big3 fuel W q0 q1 q2 (by omega)
      · exact runs_big2 fuel W q0 q1 (by omega)
    · exact runs_big1 fuel W q0 (by omega)
  · exact runs_big0 fuel W (by omega)
end Go.Proofs.Ytigimkcppocodaa.B
