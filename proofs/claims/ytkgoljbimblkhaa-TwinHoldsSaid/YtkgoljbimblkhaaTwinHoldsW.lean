/- TwinHolds: of any image, on any two inputs, what is seen of both and how much of it is the same. -/
import Derived.Test.YtkgoljbimblkhaaTwinMade
namespace Go.Proofs.Ytkgoljbimblkhaa.B
open Go.RowKit Go.Proofs.Ytkgoljbimblkhaa.Mine Go.Proofs.Ytkgoljbimblkhaa.Sep Go.Proofs.YtkgoljbimblkhaaW.PrintWords Go.Proofs.YtkgoljbimblkhaaW.PrintLast Go.Proofs.YtkgoljbimblkhaaW.PrintMore
set_option linter.unusedVariables false
set_option linter.unusedSimpArgs false
section
variable {Ac : Option Addr} {cc : Nat} {code : List S56} {Aa : Option Addr} {ca : Nat} {arrs : List S60} {st me : Int} {Ai : Option Addr} {ci : Nat} {ins : List (List Int)} {Aj : Option Addr} {cj : Nat} {jns : List (List Int)} {As : Option Addr} {cs : Nat} {script : List (Int × Int)}
set_option maxRecDepth 100000 in
set_option maxHeartbeats 2000000 in
theorem holds_t0 (a3 a4 : Int) (W : World) (t0 : decide (60 < (code.length : Int)) = true) :
    Calls Try.prog 3 #[.agg #[.slice Ac code.length cc, .slice Aa arrs.length ca, .int .i64 st, .int .i64 me], .slice Ai ins.length ci, .slice Aj jns.length cj, .int .i64 a3, .int .i64 a4, .slice As script.length cs] W fun e W' => e = .returned (.bool true) ∧ Below W.heap.size W W' := by
  have HS := Sat.start W
  go_enter Try.func3, Try.ntmps3
  go_upto_region 1 with ((with_reducible refine gate_dst (N := 6) rfl ?_); go_must (refine ev_box HS rfl (N := 6) rfl (cs := #[.slice Ac code.length cc, .slice Aa arrs.length ca, .int .i64 st, .int .i64 me]) (t := 25) ?hrun ?_); (case hrun => first | (go_simp; done) | (go_simp; rfl)); clear HS; intro gb w HS)
  go_upto_region 3 with (go_at_call 6; refine (head_calls HS).mono ?_; rintro e w_ ⟨rfl, HS_⟩; clear HS; have HS := HS_; clear HS_)
  have cb := HS.cell 0 rfl
  go_wp2
  go_ret
  exact ⟨rfl, HS.old 1 rfl⟩

set_option maxRecDepth 100000 in
set_option maxHeartbeats 2000000 in
theorem holds_t1 (a3 a4 : Int) (W : World) (t0 : decide (60 < (code.length : Int)) = false) (t1 : decide (70 < (arrs.length : Int)) = true) :
    Calls Try.prog 3 #[.agg #[.slice Ac code.length cc, .slice Aa arrs.length ca, .int .i64 st, .int .i64 me], .slice Ai ins.length ci, .slice Aj jns.length cj, .int .i64 a3, .int .i64 a4, .slice As script.length cs] W fun e W' => e = .returned (.bool true) ∧ Below W.heap.size W W' := by
  have HS := Sat.start W
  go_enter Try.func3, Try.ntmps3
  go_upto_region 1 with ((with_reducible refine gate_dst (N := 6) rfl ?_); go_must (refine ev_box HS rfl (N := 6) rfl (cs := #[.slice Ac code.length cc, .slice Aa arrs.length ca, .int .i64 st, .int .i64 me]) (t := 25) ?hrun ?_); (case hrun => first | (go_simp; done) | (go_simp; rfl)); clear HS; intro gb w HS)
  go_upto_region 3 with (go_at_call 6; refine (head_calls HS).mono ?_; rintro e w_ ⟨rfl, HS_⟩; clear HS; have HS := HS_; clear HS_)
  have cb := HS.cell 0 rfl
  go_wp2
  go_ret
  exact ⟨rfl, HS.old 1 rfl⟩

set_option maxRecDepth 100000 in
set_option maxHeartbeats 2000000 in
theorem holds_t2 (a3 a4 : Int) (W : World) (t0 : decide (60 < (code.length : Int)) = false) (t1 : decide (70 < (arrs.length : Int)) = false) (t2 : decide (20 < (ins.length : Int)) = true) :
    Calls Try.prog 3 #[.agg #[.slice Ac code.length cc, .slice Aa arrs.length ca, .int .i64 st, .int .i64 me], .slice Ai ins.length ci, .slice Aj jns.length cj, .int .i64 a3, .int .i64 a4, .slice As script.length cs] W fun e W' => e = .returned (.bool true) ∧ Below W.heap.size W W' := by
  have HS := Sat.start W
  go_enter Try.func3, Try.ntmps3
  go_upto_region 1 with ((with_reducible refine gate_dst (N := 6) rfl ?_); go_must (refine ev_box HS rfl (N := 6) rfl (cs := #[.slice Ac code.length cc, .slice Aa arrs.length ca, .int .i64 st, .int .i64 me]) (t := 25) ?hrun ?_); (case hrun => first | (go_simp; done) | (go_simp; rfl)); clear HS; intro gb w HS)
  go_upto_region 3 with (go_at_call 6; refine (head_calls HS).mono ?_; rintro e w_ ⟨rfl, HS_⟩; clear HS; have HS := HS_; clear HS_)
  have cb := HS.cell 0 rfl
  go_wp2
  go_ret
  exact ⟨rfl, HS.old 1 rfl⟩

set_option maxRecDepth 100000 in
set_option maxHeartbeats 2000000 in
theorem holds_t3 (a3 a4 : Int) (W : World) (t0 : decide (60 < (code.length : Int)) = false) (t1 : decide (70 < (arrs.length : Int)) = false) (t2 : decide (20 < (ins.length : Int)) = false) (t3 : decide (20 < (jns.length : Int)) = true) :
    Calls Try.prog 3 #[.agg #[.slice Ac code.length cc, .slice Aa arrs.length ca, .int .i64 st, .int .i64 me], .slice Ai ins.length ci, .slice Aj jns.length cj, .int .i64 a3, .int .i64 a4, .slice As script.length cs] W fun e W' => e = .returned (.bool true) ∧ Below W.heap.size W W' := by
  have HS := Sat.start W
  go_enter Try.func3, Try.ntmps3
  go_upto_region 1 with ((with_reducible refine gate_dst (N := 6) rfl ?_); go_must (refine ev_box HS rfl (N := 6) rfl (cs := #[.slice Ac code.length cc, .slice Aa arrs.length ca, .int .i64 st, .int .i64 me]) (t := 25) ?hrun ?_); (case hrun => first | (go_simp; done) | (go_simp; rfl)); clear HS; intro gb w HS)
  go_upto_region 3 with (go_at_call 6; refine (head_calls HS).mono ?_; rintro e w_ ⟨rfl, HS_⟩; clear HS; have HS := HS_; clear HS_)
  have cb := HS.cell 0 rfl
  go_wp2
  go_ret
  exact ⟨rfl, HS.old 1 rfl⟩

set_option maxRecDepth 100000 in
set_option maxHeartbeats 2000000 in
theorem holds_t4 (a3 a4 : Int) (W : World) (t0 : decide (60 < (code.length : Int)) = false) (t1 : decide (70 < (arrs.length : Int)) = false) (t2 : decide (20 < (ins.length : Int)) = false) (t3 : decide (20 < (jns.length : Int)) = false) (t4 : decide (5000 < me) = true) :
    Calls Try.prog 3 #[.agg #[.slice Ac code.length cc, .slice Aa arrs.length ca, .int .i64 st, .int .i64 me], .slice Ai ins.length ci, .slice Aj jns.length cj, .int .i64 a3, .int .i64 a4, .slice As script.length cs] W fun e W' => e = .returned (.bool true) ∧ Below W.heap.size W W' := by
  have HS := Sat.start W
  go_enter Try.func3, Try.ntmps3
  go_upto_region 1 with ((with_reducible refine gate_dst (N := 6) rfl ?_); go_must (refine ev_box HS rfl (N := 6) rfl (cs := #[.slice Ac code.length cc, .slice Aa arrs.length ca, .int .i64 st, .int .i64 me]) (t := 25) ?hrun ?_); (case hrun => first | (go_simp; done) | (go_simp; rfl)); clear HS; intro gb w HS)
  go_upto_region 3 with (go_at_call 6; refine (head_calls HS).mono ?_; rintro e w_ ⟨rfl, HS_⟩; clear HS; have HS := HS_; clear HS_)
  have cb := HS.cell 0 rfl
  go_wp2
  go_ret
  exact ⟨rfl, HS.old 1 rfl⟩

set_option maxRecDepth 100000 in
set_option maxHeartbeats 2000000 in
theorem holds_t5 (a3 a4 : Int) (W : World) (t0 : decide (60 < (code.length : Int)) = false) (t1 : decide (70 < (arrs.length : Int)) = false) (t2 : decide (20 < (ins.length : Int)) = false) (t3 : decide (20 < (jns.length : Int)) = false) (t4 : decide (5000 < me) = false) (t5 : decide (100 < (script.length : Int)) = true) :
    Calls Try.prog 3 #[.agg #[.slice Ac code.length cc, .slice Aa arrs.length ca, .int .i64 st, .int .i64 me], .slice Ai ins.length ci, .slice Aj jns.length cj, .int .i64 a3, .int .i64 a4, .slice As script.length cs] W fun e W' => e = .returned (.bool true) ∧ Below W.heap.size W W' := by
  have HS := Sat.start W
  go_enter Try.func3, Try.ntmps3
  go_upto_region 1 with ((with_reducible refine gate_dst (N := 6) rfl ?_); go_must (refine ev_box HS rfl (N := 6) rfl (cs := #[.slice Ac code.length cc, .slice Aa arrs.length ca, .int .i64 st, .int .i64 me]) (t := 25) ?hrun ?_); (case hrun => first | (go_simp; done) | (go_simp; rfl)); clear HS; intro gb w HS)
  go_upto_region 3 with (go_at_call 6; refine (head_calls HS).mono ?_; rintro e w_ ⟨rfl, HS_⟩; clear HS; have HS := HS_; clear HS_)
  have cb := HS.cell 0 rfl
  go_wp2
  go_ret
  exact ⟨rfl, HS.old 1 rfl⟩

set_option maxRecDepth 100000 in
set_option maxHeartbeats 2000000 in
theorem holds_bad (a3 a4 : Int) (W : World) (hC : Kd.C k56 W Ac code.length code) (hcc : code.length ≤ cc) (hA : Kd.C k60 W Aa arrs.length arrs) (hca : arrs.length ≤ ca) (hI : Kd.C (Kd.slice 2 (Kd.int .i64)) W Ai ins.length ins) (hci : ins.length ≤ ci) (hJ : Kd.C (Kd.slice 2 (Kd.int .i64)) W Aj jns.length jns) (hcj : jns.length ≤ cj) (t0 : decide (60 < (code.length : Int)) = false) (t1 : decide (70 < (arrs.length : Int)) = false) (t2 : decide (20 < (ins.length : Int)) = false) (t3 : decide (20 < (jns.length : Int)) = false) (t4 : decide (5000 < me) = false) (t5 : decide (100 < (script.length : Int)) = false) {k : Nat} (hr : image_Image_Right.f k code arrs st me = some false) :
    Calls Try.prog 3 #[.agg #[.slice Ac code.length cc, .slice Aa arrs.length ca, .int .i64 st, .int .i64 me], .slice Ai ins.length ci, .slice Aj jns.length cj, .int .i64 a3, .int .i64 a4, .slice As script.length cs] W fun e W' => e = .returned (.bool true) ∧ Below W.heap.size W W' := by
  have HR := Aside0.mk hr
  clear hr
  have HT := Aside0.mk (show code.length ≤ 60 ∧ arrs.length ≤ 70 ∧ ins.length ≤ 20 ∧ jns.length ≤ 20 ∧ me ≤ 5000 ∧ script.length ≤ 100 from ⟨by have := of_decide_eq_false t0; omega, by have := of_decide_eq_false t1; omega, by have := of_decide_eq_false t2; omega, by have := of_decide_eq_false t3; omega, by have := of_decide_eq_false t4; omega, by have := of_decide_eq_false t5; omega⟩)
  obtain ⟨fu, hfu⟩ : ∃ fu, fu = Go.bits .and .i64 a3 127 := ⟨_, rfl⟩
  have hf0 : 0 ≤ fu := by rw [hfu, and127]; omega
  have hf1 : fu ≤ 100000 := by rw [hfu, and127]; omega
  have hbits2 : Go.bits .and .i64 a3 127 = fu := hfu.symm
  clear hfu
  have HS := Sat.start W
  go_enter Try.func3, Try.ntmps3
  go_upto_region 1 with ((with_reducible refine gate_dst (N := 6) rfl ?_); go_must (refine ev_box HS rfl (N := 6) rfl (cs := #[.slice Ac code.length cc, .slice Aa arrs.length ca, .int .i64 st, .int .i64 me]) (t := 25) ?hrun ?_); (case hrun => first | (go_simp; done) | (go_simp; rfl)); clear HS; intro gb w HS)
  go_upto_region 3 with (go_at_call 6; refine (head_calls HS).mono ?_; rintro e w_ ⟨rfl, HS_⟩; clear HS; have HS := HS_; clear HS_)
  have cb := HS.cell 0 rfl
  go_upto_region 6 with (fail)
  clear t0 t1 t2 t3 t4 t5
  go_upto_region 7 with (first | ((with_reducible refine gate_dst (N := 66) rfl ?_); ((with_reducible refine gate_load (ty := 25) (p := 6) rfl ?_); go_must (refine ev_load HS 0 rfl rfl 25 (.tmp 6) rfl (N := 66) rfl rfl _ Try.underlying25 rfl (by kernel_rfl) ?_))) | ((with_reducible refine gate_dst (N := 13) rfl ?_); go_must (refine ev_box HS rfl (N := 13) rfl (cs := #[.slice none 0 0, .slice none 0 0, .int .i64 0, .int .i64 0, .slice none 0 0, .slice none 0 0]) (t := 30) ?hrun ?_); (case hrun => first | (go_simp; done) | (go_simp; rfl)); clear HS; intro gp w HS) | ((with_reducible refine gate_store (t := 30) (p := 13) rfl ?_); go_must (refine ev_store HS 0 rfl rfl 30 (.tmp 13) (.tmp 69) rfl rfl rfl [.slice Ac code.length cc, .slice Aa arrs.length ca, .int .i64 st, .int .i64 me, .slice Ai ins.length ci, .slice Aj jns.length cj] ?hx (by kernel_rfl) (by rfl) ?h1 ?_); (case hx => first | rfl | (go_simp; done)); (case h1 => simp [Value.oneCell']); clear HS; intro w HS))
  have HP := Aside0.mk (plain_bad (Aj := Aj) (jns := jns) (ci := ci) (cj := cj) fu (img_old hC hcc hA hca hI 2 rfl) HR HS)
  go_upto_region 8 with (first | ((with_reducible refine gate_load (ty := 30) (p := 13) rfl ?_); go_must (refine ev_load HS 0 rfl rfl 30 (.tmp 13) rfl (N := 71) rfl rfl _ Try.underlying30 rfl (by kernel_rfl) ?_)) | (go_at_call 7; refine HP.out.mono ?_; rintro e w_ ⟨rfl, HS_⟩; clear HS HP; have HS := HS_; clear HS_) | ((with_reducible refine gate_dst (N := 14) rfl ?_); go_must (refine ev_box HS rfl (N := 14) rfl (cs := made0) (t := 33) ?hrun ?_); (case hrun => first | (go_simp; done) | (go_simp; rfl)); clear HS; intro g1 w HS) | ((with_reducible refine gate_store (t := 33) (p := 14) rfl ?_); go_must (refine ev_store HS 0 rfl rfl 33 (.tmp 14) (.tmp 74) rfl rfl rfl [.int .i64 0, .bool false, .slice none 0 0, .slice none 0 0] ?hx (by kernel_rfl) (by rfl) ?h1 ?_); (case hx => first | rfl | (go_simp; done)); (case h1 => simp [Value.oneCell']); clear HS; intro w HS))
  have HP := Aside0.mk (told_bad (Aj := Aj) (jns := jns) (ci := ci) (cj := cj) (win := a4) (As := As) (script := script) (cs := cs) HR (img_old hC hcc hA hca hI 3 rfl) HS)
  go_upto_region 9 with (first | ((with_reducible refine gate_load (ty := 30) (p := 13) rfl ?_); go_must (refine ev_load HS 1 rfl rfl 30 (.tmp 13) rfl (N := 77) rfl rfl _ Try.underlying30 rfl (by kernel_rfl) ?_)) | (go_at_call 8; refine HP.out.mono ?_; rintro e w_ ⟨rfl, HS_⟩; clear HS HP; have HS := HS_; clear HS_) | ((with_reducible refine gate_dst (N := 16) rfl ?_); go_must (refine ev_box HS rfl (N := 16) rfl (cs := made0) (t := 33) ?hrun ?_); (case hrun => first | (go_simp; done) | (go_simp; rfl)); clear HS; intro g2 w HS) | ((with_reducible refine gate_store (t := 33) (p := 16) rfl ?_); go_must (refine ev_store HS 0 rfl rfl 33 (.tmp 16) (.tmp 81) rfl rfl rfl [.int .i64 0, .bool false, .slice none 0 0, .slice none 0 0] ?hx (by kernel_rfl) (by rfl) ?h1 ?_); (case hx => first | rfl | (go_simp; done)); (case h1 => simp [Value.oneCell']); clear HS; intro w HS))
  have HRC := Aside0.mk (image_Image_Right.calls k Ac cc code Aa ca arrs st me false _ (Kd.C_below hC (HS.old 4 rfl)) hcc (Kd.C_below hA (HS.old 4 rfl)) hca HR.out)
  go_upto_region 10 with (first | ((with_reducible refine gate_dst (N := 83) rfl ?_); ((with_reducible refine gate_load (ty := 25) (p := 6) rfl ?_); go_must (refine ev_load HS 3 rfl rfl 25 (.tmp 6) rfl (N := 83) rfl rfl _ Try.underlying25 rfl (by kernel_rfl) ?_))) | (go_at_call 9; refine HRC.out.mono ?_; rintro e w_ ⟨rfl, hb⟩; replace HS := HS.below hb; clear hb HRC))
  have c0 := HS.cell 0 rfl
  have c1 := HS.cell 1 rfl
  go_wp2
  go_ret
  exact ⟨rfl, HS.old 4 rfl⟩

set_option maxRecDepth 100000 in
set_option maxHeartbeats 2000000 in
theorem holds_few (a3 a4 : Int) (W : World) (hC : Kd.C k56 W Ac code.length code) (hcc : code.length ≤ cc) (hA : Kd.C k60 W Aa arrs.length arrs) (hca : arrs.length ≤ ca) (hI : Kd.C (Kd.slice 2 (Kd.int .i64)) W Ai ins.length ins) (hci : ins.length ≤ ci) (hJ : Kd.C (Kd.slice 2 (Kd.int .i64)) W Aj jns.length jns) (hcj : jns.length ≤ cj) (t0 : decide (60 < (code.length : Int)) = false) (t1 : decide (70 < (arrs.length : Int)) = false) (t2 : decide (20 < (ins.length : Int)) = false) (t3 : decide (20 < (jns.length : Int)) = false) (t4 : decide (5000 < me) = false) (t5 : decide (100 < (script.length : Int)) = false) (hScr : Kd.C kDeed W As script.length script) {k : Nat} (hr : image_Image_Right.f k code arrs st me = some true) (hf : palingslaw19_Few.f 500 code arrs st me ins = some false) :
    Calls Try.prog 3 #[.agg #[.slice Ac code.length cc, .slice Aa arrs.length ca, .int .i64 st, .int .i64 me], .slice Ai ins.length ci, .slice Aj jns.length cj, .int .i64 a3, .int .i64 a4, .slice As script.length cs] W fun e W' => e = .returned (.bool true) ∧ Below W.heap.size W W' := by
  have HF := Aside0.mk hf
  clear hf
  have HT := Aside0.mk (show code.length ≤ 60 ∧ arrs.length ≤ 70 ∧ ins.length ≤ 20 ∧ jns.length ≤ 20 ∧ me ≤ 5000 ∧ script.length ≤ 100 from ⟨by have := of_decide_eq_false t0; omega, by have := of_decide_eq_false t1; omega, by have := of_decide_eq_false t2; omega, by have := of_decide_eq_false t3; omega, by have := of_decide_eq_false t4; omega, by have := of_decide_eq_false t5; omega⟩)
  obtain ⟨fu, hfu⟩ : ∃ fu, fu = Go.bits .and .i64 a3 127 := ⟨_, rfl⟩
  have hf0 : 0 ≤ fu := by rw [hfu, and127]; omega
  have hf1 : fu ≤ 100000 := by rw [hfu, and127]; omega
  have hbits2 : Go.bits .and .i64 a3 127 = fu := hfu.symm
  clear hfu
  have HFI := Aside0.mk (fine_of (ins := ins) ⟨k, hr⟩)
  have HFJ := Aside0.mk (fine_of (ins := jns) ⟨k, hr⟩)
  have HR := Aside0.mk hr
  clear hr
  have hsl : script.length ≤ 1000 := by have := HT.out; omega
  obtain ⟨X, hX⟩ : ∃ X, X = seenP code st me fu arrs ins := ⟨_, rfl⟩
  obtain ⟨Y, hY⟩ : ∃ Y, Y = seenP code st me fu arrs jns := ⟨_, rfl⟩
  have HX := Aside0.mk hX
  have HY := Aside0.mk hY
  clear hX hY
  have HS := Sat.start W
  go_enter Try.func3, Try.ntmps3
  go_upto_region 1 with ((with_reducible refine gate_dst (N := 6) rfl ?_); go_must (refine ev_box HS rfl (N := 6) rfl (cs := #[.slice Ac code.length cc, .slice Aa arrs.length ca, .int .i64 st, .int .i64 me]) (t := 25) ?hrun ?_); (case hrun => first | (go_simp; done) | (go_simp; rfl)); clear HS; intro gb w HS)
  go_upto_region 3 with (go_at_call 6; refine (head_calls HS).mono ?_; rintro e w_ ⟨rfl, HS_⟩; clear HS; have HS := HS_; clear HS_)
  have cb := HS.cell 0 rfl
  go_upto_region 6 with (fail)
  clear t0 t1 t2 t3 t4 t5
  go_upto_region 7 with (first | ((with_reducible refine gate_dst (N := 66) rfl ?_); ((with_reducible refine gate_load (ty := 25) (p := 6) rfl ?_); go_must (refine ev_load HS 0 rfl rfl 25 (.tmp 6) rfl (N := 66) rfl rfl _ Try.underlying25 rfl (by kernel_rfl) ?_))) | ((with_reducible refine gate_dst (N := 13) rfl ?_); go_must (refine ev_box HS rfl (N := 13) rfl (cs := #[.slice none 0 0, .slice none 0 0, .int .i64 0, .int .i64 0, .slice none 0 0, .slice none 0 0]) (t := 30) ?hrun ?_); (case hrun => first | (go_simp; done) | (go_simp; rfl)); clear HS; intro gp w HS) | ((with_reducible refine gate_store (t := 30) (p := 13) rfl ?_); go_must (refine ev_store HS 0 rfl rfl 30 (.tmp 13) (.tmp 69) rfl rfl rfl [.slice Ac code.length cc, .slice Aa arrs.length ca, .int .i64 st, .int .i64 me, .slice Ai ins.length ci, .slice Aj jns.length cj] ?hx (by kernel_rfl) (by rfl) ?h1 ?_); (case hx => first | rfl | (go_simp; done)); (case h1 => simp [Value.oneCell']); clear HS; intro w HS))
  have HP := Aside0.mk (plain_calls (ci := ci) (cj := cj) fu hf0 hf1 (img_old hC hcc hA hca hI 2 rfl) (img_old hC hcc hA hca hJ 2 rfl) HFI.out X Y HX HY HS)
  go_upto_region 8 with (first | ((with_reducible refine gate_load (ty := 30) (p := 13) rfl ?_); go_must (refine ev_load HS 0 rfl rfl 30 (.tmp 13) rfl (N := 71) rfl rfl _ Try.underlying30 rfl (by kernel_rfl) ?_)) | (go_at_call 7; refine HP.out.mono ?_; rintro e w_ ⟨A1, c1, A2, c2, rfl, HS_⟩; clear HS HP; have HS := HS_; clear HS_) | ((with_reducible refine gate_dst (N := 14) rfl ?_); go_must (refine ev_box HS rfl (N := 14) rfl (cs := made0) (t := 33) ?hrun ?_); (case hrun => first | (go_simp; done) | (go_simp; rfl)); clear HS; intro g1 w HS) | ((with_reducible refine gate_store (t := 33) (p := 14) rfl ?_); go_must (refine ev_store HS 0 rfl rfl 33 (.tmp 14) (.tmp 74) rfl rfl rfl [.int .i64 (preO X Y), .bool (allO X Y), .slice A1 X.length c1, .slice A2 Y.length c2] ?hx (by kernel_rfl) (by rfl) ?h1 ?_); (case hx => first | rfl | (go_simp; done)); (case h1 => simp [Value.oneCell']); clear HS; intro w HS))
  have HP := Aside0.mk (told_any (ci := ci) (cj := cj) (cs := cs) (win := a4) (img_old hC hcc hA hca hI 5 rfl) (img_old hC hcc hA hca hJ 5 rfl) HFI.out HFJ.out (fun w h => Kd.C_below hScr (h.old 5 rfl)) hsl HS)
  go_upto_region 9 with (first | ((with_reducible refine gate_load (ty := 30) (p := 13) rfl ?_); go_must (refine ev_load HS 3 rfl rfl 30 (.tmp 13) rfl (N := 77) rfl rfl _ Try.underlying30 rfl (by kernel_rfl) ?_)) | (go_at_call 8; refine HP.out.mono ?_; rintro e w_ ⟨n, q, B1, n1, d1, B2, n2, d2, f, rfl, HS_⟩; clear HS HP; have HS := HS_; clear HS_) | ((with_reducible refine gate_dst (N := 16) rfl ?_); go_must (refine ev_box HS rfl (N := 16) rfl (cs := made0) (t := 33) ?hrun ?_); (case hrun => first | (go_simp; done) | (go_simp; rfl)); clear HS; intro g2 w HS) | ((with_reducible refine gate_store (t := 33) (p := 16) rfl ?_); go_must (refine ev_store HS 0 rfl rfl 33 (.tmp 16) (.tmp 81) rfl rfl rfl [.int .i64 n, .bool q, .slice B1 n1 d1, .slice B2 n2 d2] ?hx (by kernel_rfl) (by rfl) ?h1 ?_); (case hx => first | rfl | (go_simp; done)); (case h1 => simp [Value.oneCell']); clear HS; intro w HS))
  have HRC := Aside0.mk (image_Image_Right.calls k Ac cc code Aa ca arrs st me true _ (Kd.C_below hC (HS.old 6 rfl)) hcc (Kd.C_below hA (HS.old 6 rfl)) hca HR.out)
  go_upto_region 11 with (first | ((with_reducible refine gate_dst (N := 83) rfl ?_); ((with_reducible refine gate_load (ty := 25) (p := 6) rfl ?_); go_must (refine ev_load HS 5 rfl rfl 25 (.tmp 6) rfl (N := 83) rfl rfl _ Try.underlying25 rfl (by kernel_rfl) ?_))) | (go_at_call 9; refine HRC.out.mono ?_; rintro e w_ ⟨rfl, hb⟩; replace HS := HS.below hb; clear hb HRC))
  have hb0 := HS.old 6 rfl
  have HC := Aside0.mk (Kd.C_below hC hb0)
  have HA := Aside0.mk (Kd.C_below hA hb0)
  have HI := Aside0.mk (Kd.C_below hI hb0)
  have HJ := Aside0.mk (Kd.C_below hJ hb0)
  clear hb0
  go_wp2_with (first | ((with_reducible refine gate_dst (N := 102) rfl ?_); ((with_reducible refine gate_load (ty := 25) (p := 6) rfl ?_); go_must (refine ev_load HS 5 rfl rfl 25 (.tmp 6) rfl (N := 102) rfl rfl _ Try.underlying25 rfl (by kernel_rfl) ?_))) | (go_at_call 10; (with_reducible refine (palingslaw19_Few.calls 500 _ _ code _ _ arrs st me _ _ ins false _ HC.out hcc HA.out hca HI.out hci HF.out).mono ?_); rintro e w2 ⟨rfl, hb⟩; have HC2 := Aside0.mk (Kd.C_below HC.out hb); have HA2 := Aside0.mk (Kd.C_below HA.out hb); have HJ2 := Aside0.mk (Kd.C_below HJ.out hb); replace HS := HS.below hb; clear hb))
  go_ret
  exact ⟨rfl, HS.old 6 rfl⟩

set_option maxRecDepth 100000 in
set_option maxHeartbeats 2000000 in
theorem holds_few2 (a3 a4 : Int) (W : World) (hC : Kd.C k56 W Ac code.length code) (hcc : code.length ≤ cc) (hA : Kd.C k60 W Aa arrs.length arrs) (hca : arrs.length ≤ ca) (hI : Kd.C (Kd.slice 2 (Kd.int .i64)) W Ai ins.length ins) (hci : ins.length ≤ ci) (hJ : Kd.C (Kd.slice 2 (Kd.int .i64)) W Aj jns.length jns) (hcj : jns.length ≤ cj) (t0 : decide (60 < (code.length : Int)) = false) (t1 : decide (70 < (arrs.length : Int)) = false) (t2 : decide (20 < (ins.length : Int)) = false) (t3 : decide (20 < (jns.length : Int)) = false) (t4 : decide (5000 < me) = false) (t5 : decide (100 < (script.length : Int)) = false) (hScr : Kd.C kDeed W As script.length script) {k : Nat} (hr : image_Image_Right.f k code arrs st me = some true) (hf : palingslaw19_Few.f 500 code arrs st me ins = some true) (hg : palingslaw19_Few.f 500 code arrs st me jns = some false) :
    Calls Try.prog 3 #[.agg #[.slice Ac code.length cc, .slice Aa arrs.length ca, .int .i64 st, .int .i64 me], .slice Ai ins.length ci, .slice Aj jns.length cj, .int .i64 a3, .int .i64 a4, .slice As script.length cs] W fun e W' => e = .returned (.bool true) ∧ Below W.heap.size W W' := by
  have HF := Aside0.mk hf
  have HG := Aside0.mk hg
  clear hf hg
  have HT := Aside0.mk (show code.length ≤ 60 ∧ arrs.length ≤ 70 ∧ ins.length ≤ 20 ∧ jns.length ≤ 20 ∧ me ≤ 5000 ∧ script.length ≤ 100 from ⟨by have := of_decide_eq_false t0; omega, by have := of_decide_eq_false t1; omega, by have := of_decide_eq_false t2; omega, by have := of_decide_eq_false t3; omega, by have := of_decide_eq_false t4; omega, by have := of_decide_eq_false t5; omega⟩)
  obtain ⟨fu, hfu⟩ : ∃ fu, fu = Go.bits .and .i64 a3 127 := ⟨_, rfl⟩
  have hf0 : 0 ≤ fu := by rw [hfu, and127]; omega
  have hf1 : fu ≤ 100000 := by rw [hfu, and127]; omega
  have hbits2 : Go.bits .and .i64 a3 127 = fu := hfu.symm
  clear hfu
  have HFI := Aside0.mk (fine_of (ins := ins) ⟨k, hr⟩)
  have HFJ := Aside0.mk (fine_of (ins := jns) ⟨k, hr⟩)
  have HR := Aside0.mk hr
  clear hr
  have hsl : script.length ≤ 1000 := by have := HT.out; omega
  obtain ⟨X, hX⟩ : ∃ X, X = seenP code st me fu arrs ins := ⟨_, rfl⟩
  obtain ⟨Y, hY⟩ : ∃ Y, Y = seenP code st me fu arrs jns := ⟨_, rfl⟩
  have HX := Aside0.mk hX
  have HY := Aside0.mk hY
  clear hX hY
  have HS := Sat.start W
  go_enter Try.func3, Try.ntmps3
  go_upto_region 1 with ((with_reducible refine gate_dst (N := 6) rfl ?_); go_must (refine ev_box HS rfl (N := 6) rfl (cs := #[.slice Ac code.length cc, .slice Aa arrs.length ca, .int .i64 st, .int .i64 me]) (t := 25) ?hrun ?_); (case hrun => first | (go_simp; done) | (go_simp; rfl)); clear HS; intro gb w HS)
  go_upto_region 3 with (go_at_call 6; refine (head_calls HS).mono ?_; rintro e w_ ⟨rfl, HS_⟩; clear HS; have HS := HS_; clear HS_)
  have cb := HS.cell 0 rfl
  go_upto_region 6 with (fail)
  clear t0 t1 t2 t3 t4 t5
  go_upto_region 7 with (first | ((with_reducible refine gate_dst (N := 66) rfl ?_); ((with_reducible refine gate_load (ty := 25) (p := 6) rfl ?_); go_must (refine ev_load HS 0 rfl rfl 25 (.tmp 6) rfl (N := 66) rfl rfl _ Try.underlying25 rfl (by kernel_rfl) ?_))) | ((with_reducible refine gate_dst (N := 13) rfl ?_); go_must (refine ev_box HS rfl (N := 13) rfl (cs := #[.slice none 0 0, .slice none 0 0, .int .i64 0, .int .i64 0, .slice none 0 0, .slice none 0 0]) (t := 30) ?hrun ?_); (case hrun => first | (go_simp; done) | (go_simp; rfl)); clear HS; intro gp w HS) | ((with_reducible refine gate_store (t := 30) (p := 13) rfl ?_); go_must (refine ev_store HS 0 rfl rfl 30 (.tmp 13) (.tmp 69) rfl rfl rfl [.slice Ac code.length cc, .slice Aa arrs.length ca, .int .i64 st, .int .i64 me, .slice Ai ins.length ci, .slice Aj jns.length cj] ?hx (by kernel_rfl) (by rfl) ?h1 ?_); (case hx => first | rfl | (go_simp; done)); (case h1 => simp [Value.oneCell']); clear HS; intro w HS))
  have HP := Aside0.mk (plain_calls (ci := ci) (cj := cj) fu hf0 hf1 (img_old hC hcc hA hca hI 2 rfl) (img_old hC hcc hA hca hJ 2 rfl) HFI.out X Y HX HY HS)
  go_upto_region 8 with (first | ((with_reducible refine gate_load (ty := 30) (p := 13) rfl ?_); go_must (refine ev_load HS 0 rfl rfl 30 (.tmp 13) rfl (N := 71) rfl rfl _ Try.underlying30 rfl (by kernel_rfl) ?_)) | (go_at_call 7; refine HP.out.mono ?_; rintro e w_ ⟨A1, c1, A2, c2, rfl, HS_⟩; clear HS HP; have HS := HS_; clear HS_) | ((with_reducible refine gate_dst (N := 14) rfl ?_); go_must (refine ev_box HS rfl (N := 14) rfl (cs := made0) (t := 33) ?hrun ?_); (case hrun => first | (go_simp; done) | (go_simp; rfl)); clear HS; intro g1 w HS) | ((with_reducible refine gate_store (t := 33) (p := 14) rfl ?_); go_must (refine ev_store HS 0 rfl rfl 33 (.tmp 14) (.tmp 74) rfl rfl rfl [.int .i64 (preO X Y), .bool (allO X Y), .slice A1 X.length c1, .slice A2 Y.length c2] ?hx (by kernel_rfl) (by rfl) ?h1 ?_); (case hx => first | rfl | (go_simp; done)); (case h1 => simp [Value.oneCell']); clear HS; intro w HS))
  have HP := Aside0.mk (told_any (ci := ci) (cj := cj) (cs := cs) (win := a4) (img_old hC hcc hA hca hI 5 rfl) (img_old hC hcc hA hca hJ 5 rfl) HFI.out HFJ.out (fun w h => Kd.C_below hScr (h.old 5 rfl)) hsl HS)
  go_upto_region 9 with (first | ((with_reducible refine gate_load (ty := 30) (p := 13) rfl ?_); go_must (refine ev_load HS 3 rfl rfl 30 (.tmp 13) rfl (N := 77) rfl rfl _ Try.underlying30 rfl (by kernel_rfl) ?_)) | (go_at_call 8; refine HP.out.mono ?_; rintro e w_ ⟨n, q, B1, n1, d1, B2, n2, d2, f, rfl, HS_⟩; clear HS HP; have HS := HS_; clear HS_) | ((with_reducible refine gate_dst (N := 16) rfl ?_); go_must (refine ev_box HS rfl (N := 16) rfl (cs := made0) (t := 33) ?hrun ?_); (case hrun => first | (go_simp; done) | (go_simp; rfl)); clear HS; intro g2 w HS) | ((with_reducible refine gate_store (t := 33) (p := 16) rfl ?_); go_must (refine ev_store HS 0 rfl rfl 33 (.tmp 16) (.tmp 81) rfl rfl rfl [.int .i64 n, .bool q, .slice B1 n1 d1, .slice B2 n2 d2] ?hx (by kernel_rfl) (by rfl) ?h1 ?_); (case hx => first | rfl | (go_simp; done)); (case h1 => simp [Value.oneCell']); clear HS; intro w HS))
  have HRC := Aside0.mk (image_Image_Right.calls k Ac cc code Aa ca arrs st me true _ (Kd.C_below hC (HS.old 6 rfl)) hcc (Kd.C_below hA (HS.old 6 rfl)) hca HR.out)
  go_upto_region 11 with (first | ((with_reducible refine gate_dst (N := 83) rfl ?_); ((with_reducible refine gate_load (ty := 25) (p := 6) rfl ?_); go_must (refine ev_load HS 5 rfl rfl 25 (.tmp 6) rfl (N := 83) rfl rfl _ Try.underlying25 rfl (by kernel_rfl) ?_))) | (go_at_call 9; refine HRC.out.mono ?_; rintro e w_ ⟨rfl, hb⟩; replace HS := HS.below hb; clear hb HRC))
  have hb0 := HS.old 6 rfl
  have HC := Aside0.mk (Kd.C_below hC hb0)
  have HA := Aside0.mk (Kd.C_below hA hb0)
  have HI := Aside0.mk (Kd.C_below hI hb0)
  have HJ := Aside0.mk (Kd.C_below hJ hb0)
  clear hb0
  go_wp2_with (first | ((with_reducible refine gate_dst (N := 107) rfl ?_); ((with_reducible refine gate_load (ty := 25) (p := 6) rfl ?_); (refine gate_guard (by rfl) ?_); dsimp only; go_must (refine ev_load HS 5 rfl rfl 25 (.tmp 6) rfl (N := 107) rfl rfl _ Try.underlying25 rfl (by kernel_rfl) ?_))) | ((with_reducible refine gate_dst (N := 102) rfl ?_); ((with_reducible refine gate_load (ty := 25) (p := 6) rfl ?_); go_must (refine ev_load HS 5 rfl rfl 25 (.tmp 6) rfl (N := 102) rfl rfl _ Try.underlying25 rfl (by kernel_rfl) ?_))) | (go_at_call 10; (with_reducible refine (palingslaw19_Few.calls 500 _ _ code _ _ arrs st me _ _ ins true _ HC.out hcc HA.out hca HI.out hci HF.out).mono ?_); rintro e w2 ⟨rfl, hb⟩; have HC2 := Aside0.mk (Kd.C_below HC.out hb); have HA2 := Aside0.mk (Kd.C_below HA.out hb); have HJ2 := Aside0.mk (Kd.C_below HJ.out hb); replace HS := HS.below hb; clear hb) | ((try (refine gate_guard (by rfl) ?_; dsimp only)); go_at_call 10; (with_reducible refine (palingslaw19_Few.calls 500 _ _ code _ _ arrs st me _ _ jns false _ HC2.out hcc HA2.out hca HJ2.out hcj HG.out).mono ?_); rintro e w3 ⟨rfl, hb⟩; replace HS := HS.below hb; clear hb))
  go_ret
  exact ⟨rfl, HS.old 6 rfl⟩

set_option maxRecDepth 100000 in
set_option maxHeartbeats 2000000 in
theorem holds_lo (a3 a4 : Int) (W : World) (hC : Kd.C k56 W Ac code.length code) (hcc : code.length ≤ cc) (hA : Kd.C k60 W Aa arrs.length arrs) (hca : arrs.length ≤ ca) (hI : Kd.C (Kd.slice 2 (Kd.int .i64)) W Ai ins.length ins) (hci : ins.length ≤ ci) (hJ : Kd.C (Kd.slice 2 (Kd.int .i64)) W Aj jns.length jns) (hcj : jns.length ≤ cj) (t0 : decide (60 < (code.length : Int)) = false) (t1 : decide (70 < (arrs.length : Int)) = false) (t2 : decide (20 < (ins.length : Int)) = false) (t3 : decide (20 < (jns.length : Int)) = false) (t4 : decide (5000 < me) = false) (t5 : decide (100 < (script.length : Int)) = false) (hScr : Kd.C kDeed W As script.length script) {k : Nat} (hr : image_Image_Right.f k code arrs st me = some true) (hf : palingslaw19_Few.f 500 code arrs st me ins = some true) (hg : palingslaw19_Few.f 500 code arrs st me jns = some true) (hw0 : decide (a4 < 1) = true) :
    Calls Try.prog 3 #[.agg #[.slice Ac code.length cc, .slice Aa arrs.length ca, .int .i64 st, .int .i64 me], .slice Ai ins.length ci, .slice Aj jns.length cj, .int .i64 a3, .int .i64 a4, .slice As script.length cs] W fun e W' => e = .returned (.bool true) ∧ Below W.heap.size W W' := by
  have HF := Aside0.mk hf
  have HG := Aside0.mk hg
  clear hf hg
  have hw : a4 < 1 ∨ 1000 < a4 := .inl (of_decide_eq_true hw0)
  have HWW := Aside0.mk hw
  clear hw
  have HT := Aside0.mk (show code.length ≤ 60 ∧ arrs.length ≤ 70 ∧ ins.length ≤ 20 ∧ jns.length ≤ 20 ∧ me ≤ 5000 ∧ script.length ≤ 100 from ⟨by have := of_decide_eq_false t0; omega, by have := of_decide_eq_false t1; omega, by have := of_decide_eq_false t2; omega, by have := of_decide_eq_false t3; omega, by have := of_decide_eq_false t4; omega, by have := of_decide_eq_false t5; omega⟩)
  obtain ⟨fu, hfu⟩ : ∃ fu, fu = Go.bits .and .i64 a3 127 := ⟨_, rfl⟩
  have hf0 : 0 ≤ fu := by rw [hfu, and127]; omega
  have hf1 : fu ≤ 100000 := by rw [hfu, and127]; omega
  have hbits2 : Go.bits .and .i64 a3 127 = fu := hfu.symm
  clear hfu
  have HFI := Aside0.mk (fine_of (ins := ins) ⟨k, hr⟩)
  have HFJ := Aside0.mk (fine_of (ins := jns) ⟨k, hr⟩)
  have HR := Aside0.mk hr
  clear hr
  have hsl : script.length ≤ 1000 := by have := HT.out; omega
  obtain ⟨X, hX⟩ : ∃ X, X = seenP code st me fu arrs ins := ⟨_, rfl⟩
  obtain ⟨Y, hY⟩ : ∃ Y, Y = seenP code st me fu arrs jns := ⟨_, rfl⟩
  have HX := Aside0.mk hX
  have HY := Aside0.mk hY
  clear hX hY
  have HS := Sat.start W
  go_enter Try.func3, Try.ntmps3
  go_upto_region 1 with ((with_reducible refine gate_dst (N := 6) rfl ?_); go_must (refine ev_box HS rfl (N := 6) rfl (cs := #[.slice Ac code.length cc, .slice Aa arrs.length ca, .int .i64 st, .int .i64 me]) (t := 25) ?hrun ?_); (case hrun => first | (go_simp; done) | (go_simp; rfl)); clear HS; intro gb w HS)
  go_upto_region 3 with (go_at_call 6; refine (head_calls HS).mono ?_; rintro e w_ ⟨rfl, HS_⟩; clear HS; have HS := HS_; clear HS_)
  have cb := HS.cell 0 rfl
  go_upto_region 6 with (fail)
  clear t0 t1 t2 t3 t4 t5
  go_upto_region 7 with (first | ((with_reducible refine gate_dst (N := 66) rfl ?_); ((with_reducible refine gate_load (ty := 25) (p := 6) rfl ?_); go_must (refine ev_load HS 0 rfl rfl 25 (.tmp 6) rfl (N := 66) rfl rfl _ Try.underlying25 rfl (by kernel_rfl) ?_))) | ((with_reducible refine gate_dst (N := 13) rfl ?_); go_must (refine ev_box HS rfl (N := 13) rfl (cs := #[.slice none 0 0, .slice none 0 0, .int .i64 0, .int .i64 0, .slice none 0 0, .slice none 0 0]) (t := 30) ?hrun ?_); (case hrun => first | (go_simp; done) | (go_simp; rfl)); clear HS; intro gp w HS) | ((with_reducible refine gate_store (t := 30) (p := 13) rfl ?_); go_must (refine ev_store HS 0 rfl rfl 30 (.tmp 13) (.tmp 69) rfl rfl rfl [.slice Ac code.length cc, .slice Aa arrs.length ca, .int .i64 st, .int .i64 me, .slice Ai ins.length ci, .slice Aj jns.length cj] ?hx (by kernel_rfl) (by rfl) ?h1 ?_); (case hx => first | rfl | (go_simp; done)); (case h1 => simp [Value.oneCell']); clear HS; intro w HS))
  have HP := Aside0.mk (plain_calls (ci := ci) (cj := cj) fu hf0 hf1 (img_old hC hcc hA hca hI 2 rfl) (img_old hC hcc hA hca hJ 2 rfl) HFI.out X Y HX HY HS)
  go_upto_region 8 with (first | ((with_reducible refine gate_load (ty := 30) (p := 13) rfl ?_); go_must (refine ev_load HS 0 rfl rfl 30 (.tmp 13) rfl (N := 71) rfl rfl _ Try.underlying30 rfl (by kernel_rfl) ?_)) | (go_at_call 7; refine HP.out.mono ?_; rintro e w_ ⟨A1, c1, A2, c2, rfl, HS_⟩; clear HS HP; have HS := HS_; clear HS_) | ((with_reducible refine gate_dst (N := 14) rfl ?_); go_must (refine ev_box HS rfl (N := 14) rfl (cs := made0) (t := 33) ?hrun ?_); (case hrun => first | (go_simp; done) | (go_simp; rfl)); clear HS; intro g1 w HS) | ((with_reducible refine gate_store (t := 33) (p := 14) rfl ?_); go_must (refine ev_store HS 0 rfl rfl 33 (.tmp 14) (.tmp 74) rfl rfl rfl [.int .i64 (preO X Y), .bool (allO X Y), .slice A1 X.length c1, .slice A2 Y.length c2] ?hx (by kernel_rfl) (by rfl) ?h1 ?_); (case hx => first | rfl | (go_simp; done)); (case h1 => simp [Value.oneCell']); clear HS; intro w HS))
  have HP := Aside0.mk (told_window (Aj := Aj) (jns := jns) (ci := ci) (cj := cj) (As := As) (script := script) (cs := cs) HFI.out HWW.out (img_old hC hcc hA hca hI 5 rfl) HS)
  go_upto_region 9 with (first | ((with_reducible refine gate_load (ty := 30) (p := 13) rfl ?_); go_must (refine ev_load HS 3 rfl rfl 30 (.tmp 13) rfl (N := 77) rfl rfl _ Try.underlying30 rfl (by kernel_rfl) ?_)) | (go_at_call 8; refine HP.out.mono ?_; rintro e w_ ⟨rfl, HS_⟩; clear HS HP; have HS := HS_; clear HS_) | ((with_reducible refine gate_dst (N := 16) rfl ?_); go_must (refine ev_box HS rfl (N := 16) rfl (cs := made0) (t := 33) ?hrun ?_); (case hrun => first | (go_simp; done) | (go_simp; rfl)); clear HS; intro g2 w HS) | ((with_reducible refine gate_store (t := 33) (p := 16) rfl ?_); go_must (refine ev_store HS 0 rfl rfl 33 (.tmp 16) (.tmp 81) rfl rfl rfl [.int .i64 0, .bool false, .slice none 0 0, .slice none 0 0] ?hx (by kernel_rfl) (by rfl) ?h1 ?_); (case hx => first | rfl | (go_simp; done)); (case h1 => simp [Value.oneCell']); clear HS; intro w HS))
  have HRC := Aside0.mk (image_Image_Right.calls k Ac cc code Aa ca arrs st me true _ (Kd.C_below hC (HS.old 6 rfl)) hcc (Kd.C_below hA (HS.old 6 rfl)) hca HR.out)
  go_upto_region 11 with (first | ((with_reducible refine gate_dst (N := 83) rfl ?_); ((with_reducible refine gate_load (ty := 25) (p := 6) rfl ?_); go_must (refine ev_load HS 5 rfl rfl 25 (.tmp 6) rfl (N := 83) rfl rfl _ Try.underlying25 rfl (by kernel_rfl) ?_))) | (go_at_call 9; refine HRC.out.mono ?_; rintro e w_ ⟨rfl, hb⟩; replace HS := HS.below hb; clear hb HRC))
  have hb0 := HS.old 6 rfl
  have HC := Aside0.mk (Kd.C_below hC hb0)
  have HA := Aside0.mk (Kd.C_below hA hb0)
  have HI := Aside0.mk (Kd.C_below hI hb0)
  have HJ := Aside0.mk (Kd.C_below hJ hb0)
  clear hb0
  go_upto_region 13 with (first | ((with_reducible refine gate_dst (N := 107) rfl ?_); ((with_reducible refine gate_load (ty := 25) (p := 6) rfl ?_); (refine gate_guard (by rfl) ?_); dsimp only; go_must (refine ev_load HS 5 rfl rfl 25 (.tmp 6) rfl (N := 107) rfl rfl _ Try.underlying25 rfl (by kernel_rfl) ?_))) | ((with_reducible refine gate_dst (N := 102) rfl ?_); ((with_reducible refine gate_load (ty := 25) (p := 6) rfl ?_); go_must (refine ev_load HS 5 rfl rfl 25 (.tmp 6) rfl (N := 102) rfl rfl _ Try.underlying25 rfl (by kernel_rfl) ?_))) | (go_at_call 10; (with_reducible refine (palingslaw19_Few.calls 500 _ _ code _ _ arrs st me _ _ ins true _ HC.out hcc HA.out hca HI.out hci HF.out).mono ?_); rintro e w2 ⟨rfl, hb⟩; have HC2 := Aside0.mk (Kd.C_below HC.out hb); have HA2 := Aside0.mk (Kd.C_below HA.out hb); have HJ2 := Aside0.mk (Kd.C_below HJ.out hb); replace HS := HS.below hb; clear hb) | ((try (refine gate_guard (by rfl) ?_; dsimp only)); go_at_call 10; (with_reducible refine (palingslaw19_Few.calls 500 _ _ code _ _ arrs st me _ _ jns true _ HC2.out hcc HA2.out hca HJ2.out hcj HG.out).mono ?_); rintro e w3 ⟨rfl, hb⟩; replace HS := HS.below hb; clear hb))
  clear HC HA HI HJ HC2 HA2 HJ2
  obtain ⟨r, hr⟩ : ∃ r, r = runF code fu (beginS st) (startF ins arrs me) := ⟨_, rfl⟩
  have r6 := Aside0.mk (show r.1.regs.length = 64 by rw [hr]; exact runN_regs' code fu fu.toNat (beginS st) (startF ins arrs me) (begin_len st))
  have HRN := Aside0.mk (show Calls Try.prog 11 #[.agg #[.slice Ac code.length cc, .slice Aa arrs.length ca, .int .i64 st, .int .i64 me], .slice Ai ins.length ci, .int .i64 fu] w3 (fun e w' => ∃ A n c v, e = .returned (.tuple #[.agg (stL r.1).toArray, .slice A n c, v, .int .i64 0]) ∧ Sat W w' (row KO 66 v X :: row IW 2 (.slice A n c) r.2.1 :: _)) from by
    rw [HX.out, hr]
    exact run_calls fu hf0 hf1 (fun w h => Kd.C_below hC (h.old 6 rfl)) hcc (fun w h => Kd.C_below hA (h.old 6 rfl)) hca (fun w h => Kd.C_below hI (h.old 6 rfl)) HR.out HS)
  clear hr
  go_upto_region 14 with (first | ((with_reducible refine gate_dst (N := 113) rfl ?_); ((with_reducible refine gate_load (ty := 25) (p := 6) rfl ?_); go_must (refine ev_load HS 5 rfl rfl 25 (.tmp 6) rfl (N := 113) rfl rfl _ Try.underlying25 rfl (by kernel_rfl) ?_))) | (go_at_call 11; refine HRN.out.mono ?_; rintro e w_ ⟨A', n', c', v', rfl, HS_⟩; clear HS HRN; have HS := HS_; clear HS_; obtain ⟨E1, cE1, rfl⟩ := HS.slice 0 rfl) | ((with_reducible refine gate_dst (N := 18) rfl ?_); go_must (refine ev_box HS rfl (N := 18) rfl (cs := (stL z0).toArray) (t := 42) ?hrun ?_); (case hrun => first | (go_simp; done) | (go_simp; rfl)); clear HS; intro g18 w HS) | ((with_reducible refine gate_store (t := 42) (p := 18) rfl ?_); go_must (refine ev_store HS 0 rfl rfl 42 (.tmp 18) (.tmp 117) rfl rfl rfl (stL r.1) rfl (len32 r6.out) (by simp [stL_length r6.out]; rfl) (stL_one _) ?_); clear HS; intro w HS))
  obtain ⟨s, hs⟩ : ∃ r, r = runF code fu (beginS st) (startF jns arrs me) := ⟨_, rfl⟩
  have s6 := Aside0.mk (show s.1.regs.length = 64 by rw [hs]; exact runN_regs' code fu fu.toNat (beginS st) (startF jns arrs me) (begin_len st))
  have HRN := Aside0.mk (show Calls Try.prog 11 #[.agg #[.slice Ac code.length cc, .slice Aa arrs.length ca, .int .i64 st, .int .i64 me], .slice Aj jns.length cj, .int .i64 fu] w (fun e w' => ∃ A n c v, e = .returned (.tuple #[.agg (stL s.1).toArray, .slice A n c, v, .int .i64 0]) ∧ Sat W w' (row KO 66 v Y :: row IW 2 (.slice A n c) s.2.1 :: _)) from by
    rw [HY.out, hs]
    exact run_calls fu hf0 hf1 (fun w h => Kd.C_below hC (h.old 9 rfl)) hcc (fun w h => Kd.C_below hA (h.old 9 rfl)) hca (fun w h => Kd.C_below hJ (h.old 9 rfl)) HR.out HS)
  clear hs
  go_upto_region 15 with (first | ((with_reducible refine gate_dst (N := 122) rfl ?_); ((with_reducible refine gate_load (ty := 25) (p := 6) rfl ?_); go_must (refine ev_load HS 8 rfl rfl 25 (.tmp 6) rfl (N := 122) rfl rfl _ Try.underlying25 rfl (by kernel_rfl) ?_))) | (go_at_call 11; refine HRN.out.mono ?_; rintro e w_ ⟨A', n', c', v', rfl, HS_⟩; clear HS HRN; have HS := HS_; clear HS_; obtain ⟨E2, cE2, rfl⟩ := HS.slice 0 rfl) | ((with_reducible refine gate_dst (N := 22) rfl ?_); go_must (refine ev_box HS rfl (N := 22) rfl (cs := (stL z0).toArray) (t := 42) ?hrun ?_); (case hrun => first | (go_simp; done) | (go_simp; rfl)); clear HS; intro g22 w HS) | ((with_reducible refine gate_store (t := 42) (p := 22) rfl ?_); go_must (refine ev_store HS 0 rfl rfl 42 (.tmp 22) (.tmp 126) rfl rfl rfl (stL s.1) rfl (len32 s6.out) (by simp [stL_length s6.out]; rfl) (stL_one _) ?_); clear HS; intro w HS))
  have HM := Aside0.mk (palingslaw24_made.calls 2000010 (preO X Y : Int) (allO X Y) A1 c1 X A2 c2 Y E1 cE1 X E2 cE2 Y true w (HS.C 9 rfl) (HS.cap 9 rfl).2 (HS.C 8 rfl) (HS.cap 8 rfl).2 (HS.C 4 rfl) (HS.cap 4 rfl).2 (HS.C 1 rfl) (HS.cap 1 rfl).2 (made_true X Y (by rw [HX.out]; have := seenP_len code st me fu arrs ins hf1; omega) (by rw [HY.out]; have := seenP_len code st me fu arrs jns hf1; omega)))
  go_upto_region 17 with (first | ((with_reducible refine gate_load (ty := 33) (p := 14) rfl ?_); (refine gate_guard (by rfl) ?_); dsimp only; go_must (refine ev_load HS 7 rfl rfl 33 (.tmp 14) rfl (N := 133) rfl rfl _ Try.underlying33 rfl (by kernel_rfl) ?_)) | ((try (refine gate_guard (by rfl) ?_; dsimp only)); go_at_call 12; refine HM.out.mono ?_; rintro e w4 ⟨rfl, hb⟩; replace HS := HS.below hb; clear hb HM))
  have c0 := HS.cell 6 rfl
  go_wp2
  go_ret
  exact ⟨rfl, HS.old 12 rfl⟩

set_option maxRecDepth 100000 in
set_option maxHeartbeats 2000000 in
theorem holds_hi (a3 a4 : Int) (W : World) (hC : Kd.C k56 W Ac code.length code) (hcc : code.length ≤ cc) (hA : Kd.C k60 W Aa arrs.length arrs) (hca : arrs.length ≤ ca) (hI : Kd.C (Kd.slice 2 (Kd.int .i64)) W Ai ins.length ins) (hci : ins.length ≤ ci) (hJ : Kd.C (Kd.slice 2 (Kd.int .i64)) W Aj jns.length jns) (hcj : jns.length ≤ cj) (t0 : decide (60 < (code.length : Int)) = false) (t1 : decide (70 < (arrs.length : Int)) = false) (t2 : decide (20 < (ins.length : Int)) = false) (t3 : decide (20 < (jns.length : Int)) = false) (t4 : decide (5000 < me) = false) (t5 : decide (100 < (script.length : Int)) = false) (hScr : Kd.C kDeed W As script.length script) {k : Nat} (hr : image_Image_Right.f k code arrs st me = some true) (hf : palingslaw19_Few.f 500 code arrs st me ins = some true) (hg : palingslaw19_Few.f 500 code arrs st me jns = some true) (hw0 : decide (a4 < 1) = false) (hw1 : decide (1000 < a4) = true) :
    Calls Try.prog 3 #[.agg #[.slice Ac code.length cc, .slice Aa arrs.length ca, .int .i64 st, .int .i64 me], .slice Ai ins.length ci, .slice Aj jns.length cj, .int .i64 a3, .int .i64 a4, .slice As script.length cs] W fun e W' => e = .returned (.bool true) ∧ Below W.heap.size W W' := by
  have HF := Aside0.mk hf
  have HG := Aside0.mk hg
  clear hf hg
  have hw : a4 < 1 ∨ 1000 < a4 := .inr (of_decide_eq_true hw1)
  have HWW := Aside0.mk hw
  clear hw
  have HT := Aside0.mk (show code.length ≤ 60 ∧ arrs.length ≤ 70 ∧ ins.length ≤ 20 ∧ jns.length ≤ 20 ∧ me ≤ 5000 ∧ script.length ≤ 100 from ⟨by have := of_decide_eq_false t0; omega, by have := of_decide_eq_false t1; omega, by have := of_decide_eq_false t2; omega, by have := of_decide_eq_false t3; omega, by have := of_decide_eq_false t4; omega, by have := of_decide_eq_false t5; omega⟩)
  obtain ⟨fu, hfu⟩ : ∃ fu, fu = Go.bits .and .i64 a3 127 := ⟨_, rfl⟩
  have hf0 : 0 ≤ fu := by rw [hfu, and127]; omega
  have hf1 : fu ≤ 100000 := by rw [hfu, and127]; omega
  have hbits2 : Go.bits .and .i64 a3 127 = fu := hfu.symm
  clear hfu
  have HFI := Aside0.mk (fine_of (ins := ins) ⟨k, hr⟩)
  have HFJ := Aside0.mk (fine_of (ins := jns) ⟨k, hr⟩)
  have HR := Aside0.mk hr
  clear hr
  have hsl : script.length ≤ 1000 := by have := HT.out; omega
  obtain ⟨X, hX⟩ : ∃ X, X = seenP code st me fu arrs ins := ⟨_, rfl⟩
  obtain ⟨Y, hY⟩ : ∃ Y, Y = seenP code st me fu arrs jns := ⟨_, rfl⟩
  have HX := Aside0.mk hX
  have HY := Aside0.mk hY
  clear hX hY
  have HS := Sat.start W
  go_enter Try.func3, Try.ntmps3
  go_upto_region 1 with ((with_reducible refine gate_dst (N := 6) rfl ?_); go_must (refine ev_box HS rfl (N := 6) rfl (cs := #[.slice Ac code.length cc, .slice Aa arrs.length ca, .int .i64 st, .int .i64 me]) (t := 25) ?hrun ?_); (case hrun => first | (go_simp; done) | (go_simp; rfl)); clear HS; intro gb w HS)
  go_upto_region 3 with (go_at_call 6; refine (head_calls HS).mono ?_; rintro e w_ ⟨rfl, HS_⟩; clear HS; have HS := HS_; clear HS_)
  have cb := HS.cell 0 rfl
  go_upto_region 6 with (fail)
  clear t0 t1 t2 t3 t4 t5
  go_upto_region 7 with (first | ((with_reducible refine gate_dst (N := 66) rfl ?_); ((with_reducible refine gate_load (ty := 25) (p := 6) rfl ?_); go_must (refine ev_load HS 0 rfl rfl 25 (.tmp 6) rfl (N := 66) rfl rfl _ Try.underlying25 rfl (by kernel_rfl) ?_))) | ((with_reducible refine gate_dst (N := 13) rfl ?_); go_must (refine ev_box HS rfl (N := 13) rfl (cs := #[.slice none 0 0, .slice none 0 0, .int .i64 0, .int .i64 0, .slice none 0 0, .slice none 0 0]) (t := 30) ?hrun ?_); (case hrun => first | (go_simp; done) | (go_simp; rfl)); clear HS; intro gp w HS) | ((with_reducible refine gate_store (t := 30) (p := 13) rfl ?_); go_must (refine ev_store HS 0 rfl rfl 30 (.tmp 13) (.tmp 69) rfl rfl rfl [.slice Ac code.length cc, .slice Aa arrs.length ca, .int .i64 st, .int .i64 me, .slice Ai ins.length ci, .slice Aj jns.length cj] ?hx (by kernel_rfl) (by rfl) ?h1 ?_); (case hx => first | rfl | (go_simp; done)); (case h1 => simp [Value.oneCell']); clear HS; intro w HS))
  have HP := Aside0.mk (plain_calls (ci := ci) (cj := cj) fu hf0 hf1 (img_old hC hcc hA hca hI 2 rfl) (img_old hC hcc hA hca hJ 2 rfl) HFI.out X Y HX HY HS)
  go_upto_region 8 with (first | ((with_reducible refine gate_load (ty := 30) (p := 13) rfl ?_); go_must (refine ev_load HS 0 rfl rfl 30 (.tmp 13) rfl (N := 71) rfl rfl _ Try.underlying30 rfl (by kernel_rfl) ?_)) | (go_at_call 7; refine HP.out.mono ?_; rintro e w_ ⟨A1, c1, A2, c2, rfl, HS_⟩; clear HS HP; have HS := HS_; clear HS_) | ((with_reducible refine gate_dst (N := 14) rfl ?_); go_must (refine ev_box HS rfl (N := 14) rfl (cs := made0) (t := 33) ?hrun ?_); (case hrun => first | (go_simp; done) | (go_simp; rfl)); clear HS; intro g1 w HS) | ((with_reducible refine gate_store (t := 33) (p := 14) rfl ?_); go_must (refine ev_store HS 0 rfl rfl 33 (.tmp 14) (.tmp 74) rfl rfl rfl [.int .i64 (preO X Y), .bool (allO X Y), .slice A1 X.length c1, .slice A2 Y.length c2] ?hx (by kernel_rfl) (by rfl) ?h1 ?_); (case hx => first | rfl | (go_simp; done)); (case h1 => simp [Value.oneCell']); clear HS; intro w HS))
  have HP := Aside0.mk (told_window (Aj := Aj) (jns := jns) (ci := ci) (cj := cj) (As := As) (script := script) (cs := cs) HFI.out HWW.out (img_old hC hcc hA hca hI 5 rfl) HS)
  go_upto_region 9 with (first | ((with_reducible refine gate_load (ty := 30) (p := 13) rfl ?_); go_must (refine ev_load HS 3 rfl rfl 30 (.tmp 13) rfl (N := 77) rfl rfl _ Try.underlying30 rfl (by kernel_rfl) ?_)) | (go_at_call 8; refine HP.out.mono ?_; rintro e w_ ⟨rfl, HS_⟩; clear HS HP; have HS := HS_; clear HS_) | ((with_reducible refine gate_dst (N := 16) rfl ?_); go_must (refine ev_box HS rfl (N := 16) rfl (cs := made0) (t := 33) ?hrun ?_); (case hrun => first | (go_simp; done) | (go_simp; rfl)); clear HS; intro g2 w HS) | ((with_reducible refine gate_store (t := 33) (p := 16) rfl ?_); go_must (refine ev_store HS 0 rfl rfl 33 (.tmp 16) (.tmp 81) rfl rfl rfl [.int .i64 0, .bool false, .slice none 0 0, .slice none 0 0] ?hx (by kernel_rfl) (by rfl) ?h1 ?_); (case hx => first | rfl | (go_simp; done)); (case h1 => simp [Value.oneCell']); clear HS; intro w HS))
  have HRC := Aside0.mk (image_Image_Right.calls k Ac cc code Aa ca arrs st me true _ (Kd.C_below hC (HS.old 6 rfl)) hcc (Kd.C_below hA (HS.old 6 rfl)) hca HR.out)
  go_upto_region 11 with (first | ((with_reducible refine gate_dst (N := 83) rfl ?_); ((with_reducible refine gate_load (ty := 25) (p := 6) rfl ?_); go_must (refine ev_load HS 5 rfl rfl 25 (.tmp 6) rfl (N := 83) rfl rfl _ Try.underlying25 rfl (by kernel_rfl) ?_))) | (go_at_call 9; refine HRC.out.mono ?_; rintro e w_ ⟨rfl, hb⟩; replace HS := HS.below hb; clear hb HRC))
  have hb0 := HS.old 6 rfl
  have HC := Aside0.mk (Kd.C_below hC hb0)
  have HA := Aside0.mk (Kd.C_below hA hb0)
  have HI := Aside0.mk (Kd.C_below hI hb0)
  have HJ := Aside0.mk (Kd.C_below hJ hb0)
  clear hb0
  go_upto_region 13 with (first | ((with_reducible refine gate_dst (N := 107) rfl ?_); ((with_reducible refine gate_load (ty := 25) (p := 6) rfl ?_); (refine gate_guard (by rfl) ?_); dsimp only; go_must (refine ev_load HS 5 rfl rfl 25 (.tmp 6) rfl (N := 107) rfl rfl _ Try.underlying25 rfl (by kernel_rfl) ?_))) | ((with_reducible refine gate_dst (N := 102) rfl ?_); ((with_reducible refine gate_load (ty := 25) (p := 6) rfl ?_); go_must (refine ev_load HS 5 rfl rfl 25 (.tmp 6) rfl (N := 102) rfl rfl _ Try.underlying25 rfl (by kernel_rfl) ?_))) | (go_at_call 10; (with_reducible refine (palingslaw19_Few.calls 500 _ _ code _ _ arrs st me _ _ ins true _ HC.out hcc HA.out hca HI.out hci HF.out).mono ?_); rintro e w2 ⟨rfl, hb⟩; have HC2 := Aside0.mk (Kd.C_below HC.out hb); have HA2 := Aside0.mk (Kd.C_below HA.out hb); have HJ2 := Aside0.mk (Kd.C_below HJ.out hb); replace HS := HS.below hb; clear hb) | ((try (refine gate_guard (by rfl) ?_; dsimp only)); go_at_call 10; (with_reducible refine (palingslaw19_Few.calls 500 _ _ code _ _ arrs st me _ _ jns true _ HC2.out hcc HA2.out hca HJ2.out hcj HG.out).mono ?_); rintro e w3 ⟨rfl, hb⟩; replace HS := HS.below hb; clear hb))
  clear HC HA HI HJ HC2 HA2 HJ2
  obtain ⟨r, hr⟩ : ∃ r, r = runF code fu (beginS st) (startF ins arrs me) := ⟨_, rfl⟩
  have r6 := Aside0.mk (show r.1.regs.length = 64 by rw [hr]; exact runN_regs' code fu fu.toNat (beginS st) (startF ins arrs me) (begin_len st))
  have HRN := Aside0.mk (show Calls Try.prog 11 #[.agg #[.slice Ac code.length cc, .slice Aa arrs.length ca, .int .i64 st, .int .i64 me], .slice Ai ins.length ci, .int .i64 fu] w3 (fun e w' => ∃ A n c v, e = .returned (.tuple #[.agg (stL r.1).toArray, .slice A n c, v, .int .i64 0]) ∧ Sat W w' (row KO 66 v X :: row IW 2 (.slice A n c) r.2.1 :: _)) from by
    rw [HX.out, hr]
    exact run_calls fu hf0 hf1 (fun w h => Kd.C_below hC (h.old 6 rfl)) hcc (fun w h => Kd.C_below hA (h.old 6 rfl)) hca (fun w h => Kd.C_below hI (h.old 6 rfl)) HR.out HS)
  clear hr
  go_upto_region 14 with (first | ((with_reducible refine gate_dst (N := 113) rfl ?_); ((with_reducible refine gate_load (ty := 25) (p := 6) rfl ?_); go_must (refine ev_load HS 5 rfl rfl 25 (.tmp 6) rfl (N := 113) rfl rfl _ Try.underlying25 rfl (by kernel_rfl) ?_))) | (go_at_call 11; refine HRN.out.mono ?_; rintro e w_ ⟨A', n', c', v', rfl, HS_⟩; clear HS HRN; have HS := HS_; clear HS_; obtain ⟨E1, cE1, rfl⟩ := HS.slice 0 rfl) | ((with_reducible refine gate_dst (N := 18) rfl ?_); go_must (refine ev_box HS rfl (N := 18) rfl (cs := (stL z0).toArray) (t := 42) ?hrun ?_); (case hrun => first | (go_simp; done) | (go_simp; rfl)); clear HS; intro g18 w HS) | ((with_reducible refine gate_store (t := 42) (p := 18) rfl ?_); go_must (refine ev_store HS 0 rfl rfl 42 (.tmp 18) (.tmp 117) rfl rfl rfl (stL r.1) rfl (len32 r6.out) (by simp [stL_length r6.out]; rfl) (stL_one _) ?_); clear HS; intro w HS))
  obtain ⟨s, hs⟩ : ∃ r, r = runF code fu (beginS st) (startF jns arrs me) := ⟨_, rfl⟩
  have s6 := Aside0.mk (show s.1.regs.length = 64 by rw [hs]; exact runN_regs' code fu fu.toNat (beginS st) (startF jns arrs me) (begin_len st))
  have HRN := Aside0.mk (show Calls Try.prog 11 #[.agg #[.slice Ac code.length cc, .slice Aa arrs.length ca, .int .i64 st, .int .i64 me], .slice Aj jns.length cj, .int .i64 fu] w (fun e w' => ∃ A n c v, e = .returned (.tuple #[.agg (stL s.1).toArray, .slice A n c, v, .int .i64 0]) ∧ Sat W w' (row KO 66 v Y :: row IW 2 (.slice A n c) s.2.1 :: _)) from by
    rw [HY.out, hs]
    exact run_calls fu hf0 hf1 (fun w h => Kd.C_below hC (h.old 9 rfl)) hcc (fun w h => Kd.C_below hA (h.old 9 rfl)) hca (fun w h => Kd.C_below hJ (h.old 9 rfl)) HR.out HS)
  clear hs
  go_upto_region 15 with (first | ((with_reducible refine gate_dst (N := 122) rfl ?_); ((with_reducible refine gate_load (ty := 25) (p := 6) rfl ?_); go_must (refine ev_load HS 8 rfl rfl 25 (.tmp 6) rfl (N := 122) rfl rfl _ Try.underlying25 rfl (by kernel_rfl) ?_))) | (go_at_call 11; refine HRN.out.mono ?_; rintro e w_ ⟨A', n', c', v', rfl, HS_⟩; clear HS HRN; have HS := HS_; clear HS_; obtain ⟨E2, cE2, rfl⟩ := HS.slice 0 rfl) | ((with_reducible refine gate_dst (N := 22) rfl ?_); go_must (refine ev_box HS rfl (N := 22) rfl (cs := (stL z0).toArray) (t := 42) ?hrun ?_); (case hrun => first | (go_simp; done) | (go_simp; rfl)); clear HS; intro g22 w HS) | ((with_reducible refine gate_store (t := 42) (p := 22) rfl ?_); go_must (refine ev_store HS 0 rfl rfl 42 (.tmp 22) (.tmp 126) rfl rfl rfl (stL s.1) rfl (len32 s6.out) (by simp [stL_length s6.out]; rfl) (stL_one _) ?_); clear HS; intro w HS))
  have HM := Aside0.mk (palingslaw24_made.calls 2000010 (preO X Y : Int) (allO X Y) A1 c1 X A2 c2 Y E1 cE1 X E2 cE2 Y true w (HS.C 9 rfl) (HS.cap 9 rfl).2 (HS.C 8 rfl) (HS.cap 8 rfl).2 (HS.C 4 rfl) (HS.cap 4 rfl).2 (HS.C 1 rfl) (HS.cap 1 rfl).2 (made_true X Y (by rw [HX.out]; have := seenP_len code st me fu arrs ins hf1; omega) (by rw [HY.out]; have := seenP_len code st me fu arrs jns hf1; omega)))
  go_upto_region 17 with (first | ((with_reducible refine gate_load (ty := 33) (p := 14) rfl ?_); (refine gate_guard (by rfl) ?_); dsimp only; go_must (refine ev_load HS 7 rfl rfl 33 (.tmp 14) rfl (N := 133) rfl rfl _ Try.underlying33 rfl (by kernel_rfl) ?_)) | ((try (refine gate_guard (by rfl) ?_; dsimp only)); go_at_call 12; refine HM.out.mono ?_; rintro e w4 ⟨rfl, hb⟩; replace HS := HS.below hb; clear hb HM))
  have c0 := HS.cell 6 rfl
  go_wp2
  go_ret
  exact ⟨rfl, HS.old 12 rfl⟩

set_option maxRecDepth 100000 in
set_option maxHeartbeats 2000000 in
theorem holds_main (a3 a4 : Int) (W : World) (hC : Kd.C k56 W Ac code.length code) (hcc : code.length ≤ cc) (hA : Kd.C k60 W Aa arrs.length arrs) (hca : arrs.length ≤ ca) (hI : Kd.C (Kd.slice 2 (Kd.int .i64)) W Ai ins.length ins) (hci : ins.length ≤ ci) (hJ : Kd.C (Kd.slice 2 (Kd.int .i64)) W Aj jns.length jns) (hcj : jns.length ≤ cj) (t0 : decide (60 < (code.length : Int)) = false) (t1 : decide (70 < (arrs.length : Int)) = false) (t2 : decide (20 < (ins.length : Int)) = false) (t3 : decide (20 < (jns.length : Int)) = false) (t4 : decide (5000 < me) = false) (t5 : decide (100 < (script.length : Int)) = false) (hScr : Kd.C kDeed W As script.length script) {k : Nat} (hr : image_Image_Right.f k code arrs st me = some true) (hf : palingslaw19_Few.f 500 code arrs st me ins = some true) (hg : palingslaw19_Few.f 500 code arrs st me jns = some true) (x0 : decide (a4 < 1) = false) (x1 : decide (1000 < a4) = false) :
    Calls Try.prog 3 #[.agg #[.slice Ac code.length cc, .slice Aa arrs.length ca, .int .i64 st, .int .i64 me], .slice Ai ins.length ci, .slice Aj jns.length cj, .int .i64 a3, .int .i64 a4, .slice As script.length cs] W fun e W' => e = .returned (.bool true) ∧ Below W.heap.size W W' := by
  have HF := Aside0.mk hf
  have HG := Aside0.mk hg
  clear hf hg
  have hw0 : 1 ≤ a4 := by have := of_decide_eq_false x0; omega
  have hw1 : a4 ≤ 1000 := by have := of_decide_eq_false x1; omega
  have HT := Aside0.mk (show code.length ≤ 60 ∧ arrs.length ≤ 70 ∧ ins.length ≤ 20 ∧ jns.length ≤ 20 ∧ me ≤ 5000 ∧ script.length ≤ 100 from ⟨by have := of_decide_eq_false t0; omega, by have := of_decide_eq_false t1; omega, by have := of_decide_eq_false t2; omega, by have := of_decide_eq_false t3; omega, by have := of_decide_eq_false t4; omega, by have := of_decide_eq_false t5; omega⟩)
  obtain ⟨fu, hfu⟩ : ∃ fu, fu = Go.bits .and .i64 a3 127 := ⟨_, rfl⟩
  have hf0 : 0 ≤ fu := by rw [hfu, and127]; omega
  have hf1 : fu ≤ 100000 := by rw [hfu, and127]; omega
  have hbits2 : Go.bits .and .i64 a3 127 = fu := hfu.symm
  clear hfu
  have HFI := Aside0.mk (fine_of (ins := ins) ⟨k, hr⟩)
  have HFJ := Aside0.mk (fine_of (ins := jns) ⟨k, hr⟩)
  have HR := Aside0.mk hr
  clear hr
  have hsl : script.length ≤ 1000 := by have := HT.out; omega
  obtain ⟨X, hX⟩ : ∃ X, X = seenP code st me fu arrs ins := ⟨_, rfl⟩
  obtain ⟨Y, hY⟩ : ∃ Y, Y = seenP code st me fu arrs jns := ⟨_, rfl⟩
  have HX := Aside0.mk hX
  have HY := Aside0.mk hY
  clear hX hY
  obtain ⟨U, hU⟩ : ∃ U, U = seenT code st me a4 arrs ins script := ⟨_, rfl⟩
  obtain ⟨V, hV⟩ : ∃ V, V = seenT code st me a4 arrs jns script := ⟨_, rfl⟩
  have HU := Aside0.mk hU
  have HV := Aside0.mk hV
  clear hU hV
  have HS := Sat.start W
  go_enter Try.func3, Try.ntmps3
  go_upto_region 1 with ((with_reducible refine gate_dst (N := 6) rfl ?_); go_must (refine ev_box HS rfl (N := 6) rfl (cs := #[.slice Ac code.length cc, .slice Aa arrs.length ca, .int .i64 st, .int .i64 me]) (t := 25) ?hrun ?_); (case hrun => first | (go_simp; done) | (go_simp; rfl)); clear HS; intro gb w HS)
  go_upto_region 3 with (go_at_call 6; refine (head_calls HS).mono ?_; rintro e w_ ⟨rfl, HS_⟩; clear HS; have HS := HS_; clear HS_)
  have cb := HS.cell 0 rfl
  go_upto_region 6 with (fail)
  clear t0 t1 t2 t3 t4 t5
  go_upto_region 7 with (first | ((with_reducible refine gate_dst (N := 66) rfl ?_); ((with_reducible refine gate_load (ty := 25) (p := 6) rfl ?_); go_must (refine ev_load HS 0 rfl rfl 25 (.tmp 6) rfl (N := 66) rfl rfl _ Try.underlying25 rfl (by kernel_rfl) ?_))) | ((with_reducible refine gate_dst (N := 13) rfl ?_); go_must (refine ev_box HS rfl (N := 13) rfl (cs := #[.slice none 0 0, .slice none 0 0, .int .i64 0, .int .i64 0, .slice none 0 0, .slice none 0 0]) (t := 30) ?hrun ?_); (case hrun => first | (go_simp; done) | (go_simp; rfl)); clear HS; intro gp w HS) | ((with_reducible refine gate_store (t := 30) (p := 13) rfl ?_); go_must (refine ev_store HS 0 rfl rfl 30 (.tmp 13) (.tmp 69) rfl rfl rfl [.slice Ac code.length cc, .slice Aa arrs.length ca, .int .i64 st, .int .i64 me, .slice Ai ins.length ci, .slice Aj jns.length cj] ?hx (by kernel_rfl) (by rfl) ?h1 ?_); (case hx => first | rfl | (go_simp; done)); (case h1 => simp [Value.oneCell']); clear HS; intro w HS))
  have HP := Aside0.mk (plain_calls (ci := ci) (cj := cj) fu hf0 hf1 (img_old hC hcc hA hca hI 2 rfl) (img_old hC hcc hA hca hJ 2 rfl) HFI.out X Y HX HY HS)
  go_upto_region 8 with (first | ((with_reducible refine gate_load (ty := 30) (p := 13) rfl ?_); go_must (refine ev_load HS 0 rfl rfl 30 (.tmp 13) rfl (N := 71) rfl rfl _ Try.underlying30 rfl (by kernel_rfl) ?_)) | (go_at_call 7; refine HP.out.mono ?_; rintro e w_ ⟨A1, c1, A2, c2, rfl, HS_⟩; clear HS HP; have HS := HS_; clear HS_) | ((with_reducible refine gate_dst (N := 14) rfl ?_); go_must (refine ev_box HS rfl (N := 14) rfl (cs := made0) (t := 33) ?hrun ?_); (case hrun => first | (go_simp; done) | (go_simp; rfl)); clear HS; intro g1 w HS) | ((with_reducible refine gate_store (t := 33) (p := 14) rfl ?_); go_must (refine ev_store HS 0 rfl rfl 33 (.tmp 14) (.tmp 74) rfl rfl rfl [.int .i64 (preO X Y), .bool (allO X Y), .slice A1 X.length c1, .slice A2 Y.length c2] ?hx (by kernel_rfl) (by rfl) ?h1 ?_); (case hx => first | rfl | (go_simp; done)); (case h1 => simp [Value.oneCell']); clear HS; intro w HS))
  have HP := Aside0.mk (told_calls (ci := ci) (cj := cj) (cs := cs) (img_old hC hcc hA hca hI 5 rfl) (img_old hC hcc hA hca hJ 5 rfl) HFI.out HFJ.out hw0 hw1 (fun w h => Kd.C_below hScr (h.old 5 rfl)) hsl U V HU HV HS)
  go_upto_region 9 with (first | ((with_reducible refine gate_load (ty := 30) (p := 13) rfl ?_); go_must (refine ev_load HS 3 rfl rfl 30 (.tmp 13) rfl (N := 77) rfl rfl _ Try.underlying30 rfl (by kernel_rfl) ?_)) | (go_at_call 8; refine HP.out.mono ?_; rintro e w_ ⟨B1, d1, B2, d2, rfl, HS_⟩; clear HS HP; have HS := HS_; clear HS_) | ((with_reducible refine gate_dst (N := 16) rfl ?_); go_must (refine ev_box HS rfl (N := 16) rfl (cs := made0) (t := 33) ?hrun ?_); (case hrun => first | (go_simp; done) | (go_simp; rfl)); clear HS; intro g2 w HS) | ((with_reducible refine gate_store (t := 33) (p := 16) rfl ?_); go_must (refine ev_store HS 0 rfl rfl 33 (.tmp 16) (.tmp 81) rfl rfl rfl [.int .i64 (preO U V), .bool (allO U V), .slice B1 U.length d1, .slice B2 V.length d2] ?hx (by kernel_rfl) (by rfl) ?h1 ?_); (case hx => first | rfl | (go_simp; done)); (case h1 => simp [Value.oneCell']); clear HS; intro w HS))
  have HRC := Aside0.mk (image_Image_Right.calls k Ac cc code Aa ca arrs st me true _ (Kd.C_below hC (HS.old 8 rfl)) hcc (Kd.C_below hA (HS.old 8 rfl)) hca HR.out)
  go_upto_region 11 with (first | ((with_reducible refine gate_dst (N := 83) rfl ?_); ((with_reducible refine gate_load (ty := 25) (p := 6) rfl ?_); go_must (refine ev_load HS 7 rfl rfl 25 (.tmp 6) rfl (N := 83) rfl rfl _ Try.underlying25 rfl (by kernel_rfl) ?_))) | (go_at_call 9; refine HRC.out.mono ?_; rintro e w_ ⟨rfl, hb⟩; replace HS := HS.below hb; clear hb HRC))
  have hb0 := HS.old 8 rfl
  have HC := Aside0.mk (Kd.C_below hC hb0)
  have HA := Aside0.mk (Kd.C_below hA hb0)
  have HI := Aside0.mk (Kd.C_below hI hb0)
  have HJ := Aside0.mk (Kd.C_below hJ hb0)
  clear hb0
  go_upto_region 13 with (first | ((with_reducible refine gate_dst (N := 107) rfl ?_); ((with_reducible refine gate_load (ty := 25) (p := 6) rfl ?_); (refine gate_guard (by rfl) ?_); dsimp only; go_must (refine ev_load HS 7 rfl rfl 25 (.tmp 6) rfl (N := 107) rfl rfl _ Try.underlying25 rfl (by kernel_rfl) ?_))) | ((with_reducible refine gate_dst (N := 102) rfl ?_); ((with_reducible refine gate_load (ty := 25) (p := 6) rfl ?_); go_must (refine ev_load HS 7 rfl rfl 25 (.tmp 6) rfl (N := 102) rfl rfl _ Try.underlying25 rfl (by kernel_rfl) ?_))) | (go_at_call 10; (with_reducible refine (palingslaw19_Few.calls 500 _ _ code _ _ arrs st me _ _ ins true _ HC.out hcc HA.out hca HI.out hci HF.out).mono ?_); rintro e w2 ⟨rfl, hb⟩; have HC2 := Aside0.mk (Kd.C_below HC.out hb); have HA2 := Aside0.mk (Kd.C_below HA.out hb); have HJ2 := Aside0.mk (Kd.C_below HJ.out hb); replace HS := HS.below hb; clear hb) | ((try (refine gate_guard (by rfl) ?_; dsimp only)); go_at_call 10; (with_reducible refine (palingslaw19_Few.calls 500 _ _ code _ _ arrs st me _ _ jns true _ HC2.out hcc HA2.out hca HJ2.out hcj HG.out).mono ?_); rintro e w3 ⟨rfl, hb⟩; replace HS := HS.below hb; clear hb))
  clear HC HA HI HJ HC2 HA2 HJ2
  obtain ⟨r, hr⟩ : ∃ r, r = runF code fu (beginS st) (startF ins arrs me) := ⟨_, rfl⟩
  have r6 := Aside0.mk (show r.1.regs.length = 64 by rw [hr]; exact runN_regs' code fu fu.toNat (beginS st) (startF ins arrs me) (begin_len st))
  have HRN := Aside0.mk (show Calls Try.prog 11 #[.agg #[.slice Ac code.length cc, .slice Aa arrs.length ca, .int .i64 st, .int .i64 me], .slice Ai ins.length ci, .int .i64 fu] w3 (fun e w' => ∃ A n c v, e = .returned (.tuple #[.agg (stL r.1).toArray, .slice A n c, v, .int .i64 0]) ∧ Sat W w' (row KO 66 v X :: row IW 2 (.slice A n c) r.2.1 :: _)) from by
    rw [HX.out, hr]
    exact run_calls fu hf0 hf1 (fun w h => Kd.C_below hC (h.old 8 rfl)) hcc (fun w h => Kd.C_below hA (h.old 8 rfl)) hca (fun w h => Kd.C_below hI (h.old 8 rfl)) HR.out HS)
  clear hr
  go_upto_region 14 with (first | ((with_reducible refine gate_dst (N := 113) rfl ?_); ((with_reducible refine gate_load (ty := 25) (p := 6) rfl ?_); go_must (refine ev_load HS 7 rfl rfl 25 (.tmp 6) rfl (N := 113) rfl rfl _ Try.underlying25 rfl (by kernel_rfl) ?_))) | (go_at_call 11; refine HRN.out.mono ?_; rintro e w_ ⟨A', n', c', v', rfl, HS_⟩; clear HS HRN; have HS := HS_; clear HS_; obtain ⟨E1, cE1, rfl⟩ := HS.slice 0 rfl) | ((with_reducible refine gate_dst (N := 18) rfl ?_); go_must (refine ev_box HS rfl (N := 18) rfl (cs := (stL z0).toArray) (t := 42) ?hrun ?_); (case hrun => first | (go_simp; done) | (go_simp; rfl)); clear HS; intro g18 w HS) | ((with_reducible refine gate_store (t := 42) (p := 18) rfl ?_); go_must (refine ev_store HS 0 rfl rfl 42 (.tmp 18) (.tmp 117) rfl rfl rfl (stL r.1) rfl (len32 r6.out) (by simp [stL_length r6.out]; rfl) (stL_one _) ?_); clear HS; intro w HS))
  obtain ⟨s, hs⟩ : ∃ r, r = runF code fu (beginS st) (startF jns arrs me) := ⟨_, rfl⟩
  have s6 := Aside0.mk (show s.1.regs.length = 64 by rw [hs]; exact runN_regs' code fu fu.toNat (beginS st) (startF jns arrs me) (begin_len st))
  have HRN := Aside0.mk (show Calls Try.prog 11 #[.agg #[.slice Ac code.length cc, .slice Aa arrs.length ca, .int .i64 st, .int .i64 me], .slice Aj jns.length cj, .int .i64 fu] w (fun e w' => ∃ A n c v, e = .returned (.tuple #[.agg (stL s.1).toArray, .slice A n c, v, .int .i64 0]) ∧ Sat W w' (row KO 66 v Y :: row IW 2 (.slice A n c) s.2.1 :: _)) from by
    rw [HY.out, hs]
    exact run_calls fu hf0 hf1 (fun w h => Kd.C_below hC (h.old 11 rfl)) hcc (fun w h => Kd.C_below hA (h.old 11 rfl)) hca (fun w h => Kd.C_below hJ (h.old 11 rfl)) HR.out HS)
  clear hs
  go_upto_region 15 with (first | ((with_reducible refine gate_dst (N := 122) rfl ?_); ((with_reducible refine gate_load (ty := 25) (p := 6) rfl ?_); go_must (refine ev_load HS 10 rfl rfl 25 (.tmp 6) rfl (N := 122) rfl rfl _ Try.underlying25 rfl (by kernel_rfl) ?_))) | (go_at_call 11; refine HRN.out.mono ?_; rintro e w_ ⟨A', n', c', v', rfl, HS_⟩; clear HS HRN; have HS := HS_; clear HS_; obtain ⟨E2, cE2, rfl⟩ := HS.slice 0 rfl) | ((with_reducible refine gate_dst (N := 22) rfl ?_); go_must (refine ev_box HS rfl (N := 22) rfl (cs := (stL z0).toArray) (t := 42) ?hrun ?_); (case hrun => first | (go_simp; done) | (go_simp; rfl)); clear HS; intro g22 w HS) | ((with_reducible refine gate_store (t := 42) (p := 22) rfl ?_); go_must (refine ev_store HS 0 rfl rfl 42 (.tmp 22) (.tmp 126) rfl rfl rfl (stL s.1) rfl (len32 s6.out) (by simp [stL_length s6.out]; rfl) (stL_one _) ?_); clear HS; intro w HS))
  have HM := Aside0.mk (palingslaw24_made.calls 2000010 (preO X Y : Int) (allO X Y) A1 c1 X A2 c2 Y E1 cE1 X E2 cE2 Y true w (HS.C 11 rfl) (HS.cap 11 rfl).2 (HS.C 10 rfl) (HS.cap 10 rfl).2 (HS.C 4 rfl) (HS.cap 4 rfl).2 (HS.C 1 rfl) (HS.cap 1 rfl).2 (made_true X Y (by rw [HX.out]; have := seenP_len code st me fu arrs ins hf1; omega) (by rw [HY.out]; have := seenP_len code st me fu arrs jns hf1; omega)))
  go_upto_region 17 with (first | ((with_reducible refine gate_load (ty := 33) (p := 14) rfl ?_); (refine gate_guard (by rfl) ?_); dsimp only; go_must (refine ev_load HS 9 rfl rfl 33 (.tmp 14) rfl (N := 133) rfl rfl _ Try.underlying33 rfl (by kernel_rfl) ?_)) | ((try (refine gate_guard (by rfl) ?_; dsimp only)); go_at_call 12; refine HM.out.mono ?_; rintro e w4 ⟨rfl, hb⟩; replace HS := HS.below hb; clear hb HM))
  go_upto_region 19 with (fail)
  have HRN := Aside0.mk (show Calls Try.prog 13 #[.agg #[.slice Ac code.length cc, .slice Aa arrs.length ca, .int .i64 st, .int .i64 me], .slice Ai ins.length ci, .int .i64 a4, .slice As script.length cs] w4 (fun e w' => ∃ g Am cm At ct v m t, e = .returned (.tuple #[.pointer (some ⟨g, 0, none⟩), v, .int .i64 0]) ∧
      Sat W w' (mch g Am me.toNat cm (.slice Ac code.length cc) (.slice At t ct) a4 m :: row KO 66 v U :: row IW 3 (.slice At t ct) (sitesF code 0) :: _)) from by
    rw [HU.out]
    exact (srun_calls (img_old hC hcc hA hca hI 14 rfl) HFI.out hw0 hw1 (fun w h => Kd.C_below hScr (h.old 14 rfl)) hsl HS).mono fun e w' ⟨g, Am, cm, At, ct, v, h1, h2⟩ => ⟨g, Am, cm, At, ct, v, _, _, h1, h2⟩)
  go_upto_region 20 with (first | ((with_reducible refine gate_dst (N := 158) rfl ?_); ((with_reducible refine gate_load (ty := 25) (p := 6) rfl ?_); go_must (refine ev_load HS 13 rfl rfl 25 (.tmp 6) rfl (N := 158) rfl rfl _ Try.underlying25 rfl (by kernel_rfl) ?_))) | (go_at_call 13; refine HRN.out.mono ?_; rintro e w_ ⟨g', Am', cm', At', ct', v', m', t', rfl, HS_⟩; clear HS HRN; have HS := HS_; clear HS_; obtain ⟨E3, cE3, rfl⟩ := HS.slice 1 rfl))
  have HRN := Aside0.mk (show Calls Try.prog 13 #[.agg #[.slice Ac code.length cc, .slice Aa arrs.length ca, .int .i64 st, .int .i64 me], .slice Aj jns.length cj, .int .i64 a4, .slice As script.length cs] w_ (fun e w' => ∃ g Am cm At ct v m t, e = .returned (.tuple #[.pointer (some ⟨g, 0, none⟩), v, .int .i64 0]) ∧
      Sat W w' (mch g Am me.toNat cm (.slice Ac code.length cc) (.slice At t ct) a4 m :: row KO 66 v V :: row IW 3 (.slice At t ct) (sitesF code 0) :: _)) from by
    rw [HV.out]
    exact (srun_calls (img_old hC hcc hA hca hJ 17 rfl) HFJ.out hw0 hw1 (fun w h => Kd.C_below hScr (h.old 17 rfl)) hsl HS).mono fun e w' ⟨g, Am, cm, At, ct, v, h1, h2⟩ => ⟨g, Am, cm, At, ct, v, _, _, h1, h2⟩)
  go_upto_region 21 with (first | ((with_reducible refine gate_dst (N := 167) rfl ?_); ((with_reducible refine gate_load (ty := 25) (p := 6) rfl ?_); go_must (refine ev_load HS 16 rfl rfl 25 (.tmp 6) rfl (N := 167) rfl rfl _ Try.underlying25 rfl (by kernel_rfl) ?_))) | (go_at_call 13; refine HRN.out.mono ?_; rintro e w_ ⟨g', Am', cm', At', ct', v', m', t', rfl, HS_⟩; clear HS HRN; have HS := HS_; clear HS_; obtain ⟨E4, cE4, rfl⟩ := HS.slice 1 rfl))
  have HM := Aside0.mk (palingslaw24_made.calls 2000010 (preO U V : Int) (allO U V) B1 d1 U B2 d2 V E3 cE3 U E4 cE4 V true w_ (HS.C 14 rfl) (HS.cap 14 rfl).2 (HS.C 13 rfl) (HS.cap 13 rfl).2 (HS.C 4 rfl) (HS.cap 4 rfl).2 (HS.C 1 rfl) (HS.cap 1 rfl).2 (made_true U V (by rw [HU.out]; have := seenT_len code st me a4 arrs ins script hsl; omega) (by rw [HV.out]; have := seenT_len code st me a4 arrs jns script hsl; omega)))
  go_wp2_with (first | ((with_reducible refine gate_load (ty := 33) (p := 16) rfl ?_); (refine gate_guard (by rfl) ?_); dsimp only; go_must (refine ev_load HS 12 rfl rfl 33 (.tmp 16) rfl (N := 178) rfl rfl _ Try.underlying33 rfl (by kernel_rfl) ?_)) | ((try (refine gate_guard (by rfl) ?_; dsimp only)); go_at_call 12; refine HM.out.mono ?_; rintro e w4 ⟨rfl, hb⟩; replace HS := HS.below hb; clear hb HM))
  go_ret
  exact ⟨rfl, HS.old 20 rfl⟩
end
set_option maxRecDepth 100000 in
theorem holds_walk {H : Type} {enc : TypeId × Value → H} {d0 d1 d2 d5 : DataW H} {p0 p1 p2 p5 : List MemPlace} (v0 v1 v2 : Value) (a3 a4 : Int) (v5 : Value) (W : World) (h0 : Arg enc Try.prog W 25 v0 d0 p0) (h1 : Arg enc Try.prog W 26 v1 d1 p1) (h2 : Arg enc Try.prog W 26 v2 d2 p2) (_ : (Lit.int .i64 a3).wf = true) (_ : (Lit.int .i64 a4).wf = true) (h5 : Arg enc Try.prog W 27 v5 d5 p5) :
    Calls Try.prog 3 #[v0, v1, v2, .int .i64 a3, .int .i64 a4, v5] W fun e w' => e = .returned (.bool true) ∧ Below W.heap.size W w' := by
  obtain ⟨Ac, cc, code, Aa, ca, arrs, st, me, rfl, hcc, hca, hC, hA, _⟩ := open_img h0
  obtain ⟨Ai, ci, ins, rfl, hci, hI⟩ := open_rows h1
  obtain ⟨Aj, cj, jns, rfl, hcj, hJ⟩ := open_rows h2
  obtain ⟨As, cs, script, rfl, _, hS⟩ := open_script h5
  cases t0 : decide (60 < (code.length : Int)) with
  | true => exact holds_t0 a3 a4 W  t0
  | false =>
    cases t1 : decide (70 < (arrs.length : Int)) with
    | true => exact holds_t1 a3 a4 W t0 t1
    | false =>
      cases t2 : decide (20 < (ins.length : Int)) with
      | true => exact holds_t2 a3 a4 W t0 t1 t2
      | false =>
        cases t3 : decide (20 < (jns.length : Int)) with
        | true => exact holds_t3 a3 a4 W t0 t1 t2 t3
        | false =>
          cases t4 : decide (5000 < me) with
          | true => exact holds_t4 a3 a4 W t0 t1 t2 t3 t4
          | false =>
            cases t5 : decide (100 < (script.length : Int)) with
            | true => exact holds_t5 a3 a4 W t0 t1 t2 t3 t4 t5
            | false =>
              have b0 := of_decide_eq_false t0
              have b1 := of_decide_eq_false t1
              obtain ⟨b, hb⟩ := right_total code arrs st me (by omega) (by omega) 500 (by omega)
              cases b with
              | false => exact holds_bad a3 a4 W hC hcc hA hca hI hci hJ hcj t0 t1 t2 t3 t4 t5 hb
              | true =>
                obtain ⟨f, hf, _⟩ := few_tells code arrs st me ins
                obtain ⟨g, hg, _⟩ := few_tells code arrs st me jns
                cases f with
                | false => exact holds_few a3 a4 W hC hcc hA hca hI hci hJ hcj t0 t1 t2 t3 t4 t5 hS hb hf
                | true =>
                  cases g with
                  | false => exact holds_few2 a3 a4 W hC hcc hA hca hI hci hJ hcj t0 t1 t2 t3 t4 t5 hS hb hf hg
                  | true =>
                    cases x0 : decide (a4 < 1) with
                    | true => exact holds_lo a3 a4 W hC hcc hA hca hI hci hJ hcj t0 t1 t2 t3 t4 t5 hS hb hf hg x0
                    | false =>
                      cases x1 : decide (1000 < a4) with
                      | true => exact holds_hi a3 a4 W hC hcc hA hca hI hci hJ hcj t0 t1 t2 t3 t4 t5 hS hb hf hg x0 x1
                      | false => exact holds_main a3 a4 W hC hcc hA hca hI hci hJ hcj t0 t1 t2 t3 t4 t5 hS hb hf hg x0 x1
end Go.Proofs.Ytkgoljbimblkhaa.B
