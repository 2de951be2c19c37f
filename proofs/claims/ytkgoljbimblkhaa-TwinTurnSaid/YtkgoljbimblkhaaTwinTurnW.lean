/- TwinTurn: held the other way round what is seen of both runs is the same as far, for every image, any two inputs, every window and every script. -/
import Derived.Test.YtkgoljbimblkhaaTwinLaw
namespace Go.Proofs.Ytkgoljbimblkhaa.B
open Go.RowKit Go.Proofs.Ytkgoljbimblkhaa.Mine Go.Proofs.Ytkgoljbimblkhaa.Sep Go.Proofs.YtkgoljbimblkhaaW.PrintWords Go.Proofs.YtkgoljbimblkhaaW.PrintLast Go.Proofs.YtkgoljbimblkhaaW.PrintMore
set_option linter.unusedVariables false
set_option linter.unusedSimpArgs false
section
variable {Ac : Option Addr} {cc : Nat} {code : List S56} {Aa : Option Addr} {ca : Nat} {arrs : List S60} {st me : Int} {Ai : Option Addr} {ci : Nat} {ins : List (List Int)} {Aj : Option Addr} {cj : Nat} {jns : List (List Int)} {As : Option Addr} {cs : Nat} {script : List (Int × Int)}
set_option maxRecDepth 100000 in
set_option maxHeartbeats 2000000 in
theorem turn_few (a3 a4 : Int) (W : World) (hC : Kd.C k56 W Ac code.length code) (hcc : code.length ≤ cc) (hA : Kd.C k60 W Aa arrs.length arrs) (hca : arrs.length ≤ ca) (hI : Kd.C (Kd.slice 2 (Kd.int .i64)) W Ai ins.length ins) (hci : ins.length ≤ ci) (hf : palingslaw19_Few.f 500 code arrs st me ins = some false) :
    Calls Try.prog 5 #[.agg #[.slice Ac code.length cc, .slice Aa arrs.length ca, .int .i64 st, .int .i64 me], .slice Ai ins.length ci, .slice Aj jns.length cj, .int .i64 a3, .int .i64 a4, .slice As script.length cs] W fun e W' => e = .returned (.bool true) ∧ Below W.heap.size W W' := by
  have HS := Sat.start W
  have HF := Aside0.mk hf
  clear hf
  go_enter Try.func5, Try.ntmps5
  go_upto_region 1 with ((with_reducible refine gate_dst (N := 6) rfl ?_); go_must (refine ev_box HS rfl (N := 6) rfl (cs := #[.slice Ac code.length cc, .slice Aa arrs.length ca, .int .i64 st, .int .i64 me]) (t := 25) ?hrun ?_); (case hrun => first | (go_simp; done) | (go_simp; rfl)); clear HS; intro gb w HS)
  go_upto_region 3 with (go_at_call 6; refine (head_calls HS).mono ?_; rintro e w_ ⟨rfl, HS_⟩; clear HS; have HS := HS_; clear HS_)
  have cb := HS.cell 0 rfl
  have hb0 := HS.old 1 rfl
  have HC := Aside0.mk (Kd.C_below hC hb0)
  have HA := Aside0.mk (Kd.C_below hA hb0)
  have HI := Aside0.mk (Kd.C_below hI hb0)
  clear hb0
  go_wp2_with (first | ((with_reducible refine gate_dst (N := 25) rfl ?_); ((with_reducible refine gate_load (ty := 25) (p := 6) rfl ?_); go_must (refine ev_load HS 0 rfl rfl 25 (.tmp 6) rfl (N := 25) rfl rfl _ Try.underlying25 rfl (by kernel_rfl) ?_))) | (go_at_call 10; (with_reducible refine (palingslaw19_Few.calls 500 _ _ code _ _ arrs st me _ _ ins false _ HC.out hcc HA.out hca HI.out hci HF.out).mono ?_); rintro e w2 ⟨rfl, hb⟩; replace HS := HS.below hb; clear hb; have cb := HS.cell 0 rfl))
  go_ret
  exact ⟨rfl, HS.old 1 rfl⟩

set_option maxRecDepth 100000 in
set_option maxHeartbeats 2000000 in
theorem turn_few2 (a3 a4 : Int) (W : World) (hC : Kd.C k56 W Ac code.length code) (hcc : code.length ≤ cc) (hA : Kd.C k60 W Aa arrs.length arrs) (hca : arrs.length ≤ ca) (hI : Kd.C (Kd.slice 2 (Kd.int .i64)) W Ai ins.length ins) (hci : ins.length ≤ ci) (hJ : Kd.C (Kd.slice 2 (Kd.int .i64)) W Aj jns.length jns) (hcj : jns.length ≤ cj) (hf : palingslaw19_Few.f 500 code arrs st me ins = some true) (hg : palingslaw19_Few.f 500 code arrs st me jns = some false) :
    Calls Try.prog 5 #[.agg #[.slice Ac code.length cc, .slice Aa arrs.length ca, .int .i64 st, .int .i64 me], .slice Ai ins.length ci, .slice Aj jns.length cj, .int .i64 a3, .int .i64 a4, .slice As script.length cs] W fun e W' => e = .returned (.bool true) ∧ Below W.heap.size W W' := by
  have HS := Sat.start W
  have HF := Aside0.mk hf
  have HG := Aside0.mk hg
  clear hf hg
  go_enter Try.func5, Try.ntmps5
  go_upto_region 1 with ((with_reducible refine gate_dst (N := 6) rfl ?_); go_must (refine ev_box HS rfl (N := 6) rfl (cs := #[.slice Ac code.length cc, .slice Aa arrs.length ca, .int .i64 st, .int .i64 me]) (t := 25) ?hrun ?_); (case hrun => first | (go_simp; done) | (go_simp; rfl)); clear HS; intro gb w HS)
  go_upto_region 3 with (go_at_call 6; refine (head_calls HS).mono ?_; rintro e w_ ⟨rfl, HS_⟩; clear HS; have HS := HS_; clear HS_)
  have cb := HS.cell 0 rfl
  have hb0 := HS.old 1 rfl
  have HC := Aside0.mk (Kd.C_below hC hb0)
  have HA := Aside0.mk (Kd.C_below hA hb0)
  have HI := Aside0.mk (Kd.C_below hI hb0)
  have HJ := Aside0.mk (Kd.C_below hJ hb0)
  clear hb0
  go_wp2_with (first | ((with_reducible refine gate_dst (N := 30) rfl ?_); ((with_reducible refine gate_load (ty := 25) (p := 6) rfl ?_); (refine gate_guard (by rfl) ?_); dsimp only; go_must (refine ev_load HS 0 rfl rfl 25 (.tmp 6) rfl (N := 30) rfl rfl _ Try.underlying25 rfl (by kernel_rfl) ?_))) | ((with_reducible refine gate_dst (N := 25) rfl ?_); ((with_reducible refine gate_load (ty := 25) (p := 6) rfl ?_); go_must (refine ev_load HS 0 rfl rfl 25 (.tmp 6) rfl (N := 25) rfl rfl _ Try.underlying25 rfl (by kernel_rfl) ?_))) | (go_at_call 10; (with_reducible refine (palingslaw19_Few.calls 500 _ _ code _ _ arrs st me _ _ ins true _ HC.out hcc HA.out hca HI.out hci HF.out).mono ?_); rintro e w2 ⟨rfl, hb⟩; have HC2 := Aside0.mk (Kd.C_below HC.out hb); have HA2 := Aside0.mk (Kd.C_below HA.out hb); have HJ2 := Aside0.mk (Kd.C_below HJ.out hb); replace HS := HS.below hb; clear hb; have cb := HS.cell 0 rfl) | ((try (refine gate_guard (by rfl) ?_; dsimp only)); go_at_call 10; (with_reducible refine (palingslaw19_Few.calls 500 _ _ code _ _ arrs st me _ _ jns false _ HC2.out hcc HA2.out hca HJ2.out hcj HG.out).mono ?_); rintro e w3 ⟨rfl, hb⟩; replace HS := HS.below hb; clear hb; have cb := HS.cell 0 rfl))
  go_ret
  exact ⟨rfl, HS.old 1 rfl⟩

set_option maxRecDepth 100000 in
set_option maxHeartbeats 2000000 in
theorem turn_long (a3 a4 : Int) (W : World) (hC : Kd.C k56 W Ac code.length code) (hcc : code.length ≤ cc) (hA : Kd.C k60 W Aa arrs.length arrs) (hca : arrs.length ≤ ca) (hI : Kd.C (Kd.slice 2 (Kd.int .i64)) W Ai ins.length ins) (hci : ins.length ≤ ci) (hJ : Kd.C (Kd.slice 2 (Kd.int .i64)) W Aj jns.length jns) (hcj : jns.length ≤ cj) (hf : palingslaw19_Few.f 500 code arrs st me ins = some true) (hg : palingslaw19_Few.f 500 code arrs st me jns = some true) (hx : decide (100 < (script.length : Int)) = true) :
    Calls Try.prog 5 #[.agg #[.slice Ac code.length cc, .slice Aa arrs.length ca, .int .i64 st, .int .i64 me], .slice Ai ins.length ci, .slice Aj jns.length cj, .int .i64 a3, .int .i64 a4, .slice As script.length cs] W fun e W' => e = .returned (.bool true) ∧ Below W.heap.size W W' := by
  have HS := Sat.start W
  have HF := Aside0.mk hf
  have HG := Aside0.mk hg
  clear hf hg
  go_enter Try.func5, Try.ntmps5
  go_upto_region 1 with ((with_reducible refine gate_dst (N := 6) rfl ?_); go_must (refine ev_box HS rfl (N := 6) rfl (cs := #[.slice Ac code.length cc, .slice Aa arrs.length ca, .int .i64 st, .int .i64 me]) (t := 25) ?hrun ?_); (case hrun => first | (go_simp; done) | (go_simp; rfl)); clear HS; intro gb w HS)
  go_upto_region 3 with (go_at_call 6; refine (head_calls HS).mono ?_; rintro e w_ ⟨rfl, HS_⟩; clear HS; have HS := HS_; clear HS_)
  have cb := HS.cell 0 rfl
  have hb0 := HS.old 1 rfl
  have HC := Aside0.mk (Kd.C_below hC hb0)
  have HA := Aside0.mk (Kd.C_below hA hb0)
  have HI := Aside0.mk (Kd.C_below hI hb0)
  have HJ := Aside0.mk (Kd.C_below hJ hb0)
  clear hb0
  go_wp2_with (first | ((with_reducible refine gate_dst (N := 30) rfl ?_); ((with_reducible refine gate_load (ty := 25) (p := 6) rfl ?_); (refine gate_guard (by rfl) ?_); dsimp only; go_must (refine ev_load HS 0 rfl rfl 25 (.tmp 6) rfl (N := 30) rfl rfl _ Try.underlying25 rfl (by kernel_rfl) ?_))) | ((with_reducible refine gate_dst (N := 25) rfl ?_); ((with_reducible refine gate_load (ty := 25) (p := 6) rfl ?_); go_must (refine ev_load HS 0 rfl rfl 25 (.tmp 6) rfl (N := 25) rfl rfl _ Try.underlying25 rfl (by kernel_rfl) ?_))) | (go_at_call 10; (with_reducible refine (palingslaw19_Few.calls 500 _ _ code _ _ arrs st me _ _ ins true _ HC.out hcc HA.out hca HI.out hci HF.out).mono ?_); rintro e w2 ⟨rfl, hb⟩; have HC2 := Aside0.mk (Kd.C_below HC.out hb); have HA2 := Aside0.mk (Kd.C_below HA.out hb); have HJ2 := Aside0.mk (Kd.C_below HJ.out hb); replace HS := HS.below hb; clear hb; have cb := HS.cell 0 rfl) | ((try (refine gate_guard (by rfl) ?_; dsimp only)); go_at_call 10; (with_reducible refine (palingslaw19_Few.calls 500 _ _ code _ _ arrs st me _ _ jns true _ HC2.out hcc HA2.out hca HJ2.out hcj HG.out).mono ?_); rintro e w3 ⟨rfl, hb⟩; replace HS := HS.below hb; clear hb; have cb := HS.cell 0 rfl))
  go_ret
  exact ⟨rfl, HS.old 1 rfl⟩

set_option maxRecDepth 100000 in
set_option maxHeartbeats 2000000 in
theorem turn_main (a3 a4 : Int) (W : World) (hC : Kd.C k56 W Ac code.length code) (hcc : code.length ≤ cc) (hA : Kd.C k60 W Aa arrs.length arrs) (hca : arrs.length ≤ ca) (hI : Kd.C (Kd.slice 2 (Kd.int .i64)) W Ai ins.length ins) (hci : ins.length ≤ ci) (hJ : Kd.C (Kd.slice 2 (Kd.int .i64)) W Aj jns.length jns) (hcj : jns.length ≤ cj) (hf : palingslaw19_Few.f 500 code arrs st me ins = some true) (hg : palingslaw19_Few.f 500 code arrs st me jns = some true) (hF : Fews code arrs st me ins) (hScr : Kd.C kDeed W As script.length script) (hx : decide (100 < (script.length : Int)) = false) :
    Calls Try.prog 5 #[.agg #[.slice Ac code.length cc, .slice Aa arrs.length ca, .int .i64 st, .int .i64 me], .slice Ai ins.length ci, .slice Aj jns.length cj, .int .i64 a3, .int .i64 a4, .slice As script.length cs] W fun e W' => e = .returned (.bool true) ∧ Below W.heap.size W W' := by
  have HS := Sat.start W
  have HF := Aside0.mk hf
  have HG := Aside0.mk hg
  clear hf hg
  obtain ⟨B, hB⟩ : ∃ B, B = Go.bits .and .i64 a4 15 := ⟨_, rfl⟩
  have hB0 : 0 ≤ B := by rw [hB, and15]; omega
  have hB1 : B ≤ 15 := by rw [hB, and15]; omega
  have hbits : Go.bits .and .i64 a4 15 = B := hB.symm
  obtain ⟨win, hwin⟩ : ∃ win, 1 + B = win := ⟨_, rfl⟩
  have hw : wrap64 win = win := w64 _ (by omega) (by omega)
  have hw0 : 1 ≤ win := by omega
  have hw1 : win ≤ 1000 := by omega
  clear hB
  obtain ⟨fu, hfu⟩ : ∃ fu, fu = Go.bits .and .i64 a3 127 := ⟨_, rfl⟩
  have hf0 : 0 ≤ fu := by rw [hfu, and127]; omega
  have hf1 : fu ≤ 100000 := by rw [hfu, and127]; omega
  have hbits2 : Go.bits .and .i64 a3 127 = fu := hfu.symm
  clear hfu
  have HFI := Aside0.mk (fine_of (ins := ins) hF.right)
  have HFJ := Aside0.mk (fine_of (ins := jns) hF.right)
  have hsl : script.length ≤ 1000 := by have := of_decide_eq_false hx; omega
  obtain ⟨X, hX⟩ : ∃ X, X = seenP code st me fu arrs ins := ⟨_, rfl⟩
  obtain ⟨Y, hY⟩ : ∃ Y, Y = seenP code st me fu arrs jns := ⟨_, rfl⟩
  obtain ⟨U, hU⟩ : ∃ U, U = seenT code st me win arrs ins script := ⟨_, rfl⟩
  obtain ⟨V, hV⟩ : ∃ V, V = seenT code st me win arrs jns script := ⟨_, rfl⟩
  have HX := Aside0.mk hX
  have HY := Aside0.mk hY
  have HU := Aside0.mk hU
  have HV := Aside0.mk hV
  have hpx := Aside0.mk (preO_comm Y X)
  have hpu := Aside0.mk (preO_comm V U)
  have hax := Aside0.mk (allO_comm Y X)
  have hau := Aside0.mk (allO_comm V U)
  clear hX hY hU hV
  go_enter Try.func5, Try.ntmps5
  go_upto_region 1 with ((with_reducible refine gate_dst (N := 6) rfl ?_); go_must (refine ev_box HS rfl (N := 6) rfl (cs := #[.slice Ac code.length cc, .slice Aa arrs.length ca, .int .i64 st, .int .i64 me]) (t := 25) ?hrun ?_); (case hrun => first | (go_simp; done) | (go_simp; rfl)); clear HS; intro gb w HS)
  go_upto_region 3 with (go_at_call 6; refine (head_calls HS).mono ?_; rintro e w_ ⟨rfl, HS_⟩; clear HS; have HS := HS_; clear HS_)
  have cb := HS.cell 0 rfl
  have hb0 := HS.old 1 rfl
  have HC := Aside0.mk (Kd.C_below hC hb0)
  have HA := Aside0.mk (Kd.C_below hA hb0)
  have HI := Aside0.mk (Kd.C_below hI hb0)
  have HJ := Aside0.mk (Kd.C_below hJ hb0)
  clear hb0
  go_upto_region 5 with (first | ((with_reducible refine gate_dst (N := 30) rfl ?_); ((with_reducible refine gate_load (ty := 25) (p := 6) rfl ?_); (refine gate_guard (by rfl) ?_); dsimp only; go_must (refine ev_load HS 0 rfl rfl 25 (.tmp 6) rfl (N := 30) rfl rfl _ Try.underlying25 rfl (by kernel_rfl) ?_))) | ((with_reducible refine gate_dst (N := 25) rfl ?_); ((with_reducible refine gate_load (ty := 25) (p := 6) rfl ?_); go_must (refine ev_load HS 0 rfl rfl 25 (.tmp 6) rfl (N := 25) rfl rfl _ Try.underlying25 rfl (by kernel_rfl) ?_))) | (go_at_call 10; (with_reducible refine (palingslaw19_Few.calls 500 _ _ code _ _ arrs st me _ _ ins true _ HC.out hcc HA.out hca HI.out hci HF.out).mono ?_); rintro e w2 ⟨rfl, hb⟩; have HC2 := Aside0.mk (Kd.C_below HC.out hb); have HA2 := Aside0.mk (Kd.C_below HA.out hb); have HJ2 := Aside0.mk (Kd.C_below HJ.out hb); replace HS := HS.below hb; clear hb; have cb := HS.cell 0 rfl) | ((try (refine gate_guard (by rfl) ?_; dsimp only)); go_at_call 10; (with_reducible refine (palingslaw19_Few.calls 500 _ _ code _ _ arrs st me _ _ jns true _ HC2.out hcc HA2.out hca HJ2.out hcj HG.out).mono ?_); rintro e w3 ⟨rfl, hb⟩; replace HS := HS.below hb; clear hb; have cb := HS.cell 0 rfl))
  clear HC HA HI HJ HC2 HA2 HJ2
  go_upto_region 6 with (first | ((with_reducible refine gate_dst (N := 40) rfl ?_); ((with_reducible refine gate_load (ty := 25) (p := 6) rfl ?_); go_must (refine ev_load HS 0 rfl rfl 25 (.tmp 6) rfl (N := 40) rfl rfl _ Try.underlying25 rfl (by kernel_rfl) ?_))) | ((with_reducible refine gate_dst (N := 13) rfl ?_); go_must (refine ev_box HS rfl (N := 13) rfl (cs := #[.slice none 0 0, .slice none 0 0, .int .i64 0, .int .i64 0, .slice none 0 0, .slice none 0 0]) (t := 30) ?hrun ?_); (case hrun => first | (go_simp; done) | (go_simp; rfl)); clear HS; intro gp w HS) | ((with_reducible refine gate_store (t := 30) (p := 13) rfl ?_); go_must (refine ev_store HS 0 rfl rfl 30 (.tmp 13) (.tmp 43) rfl rfl rfl [.slice Ac code.length cc, .slice Aa arrs.length ca, .int .i64 st, .int .i64 me, .slice Ai ins.length ci, .slice Aj jns.length cj] ?hx (by kernel_rfl) (by rfl) ?h1 ?_); (case hx => first | rfl | (go_simp; done)); (case h1 => simp [Value.oneCell']); clear HS; intro w HS))
  go_upto_region 7 with (first | ((with_reducible refine gate_dst (N := 44) rfl ?_); ((with_reducible refine gate_load (ty := 25) (p := 6) rfl ?_); go_must (refine ev_load HS 1 rfl rfl 25 (.tmp 6) rfl (N := 44) rfl rfl _ Try.underlying25 rfl (by kernel_rfl) ?_))) | ((with_reducible refine gate_dst (N := 14) rfl ?_); go_must (refine ev_box HS rfl (N := 14) rfl (cs := #[.slice none 0 0, .slice none 0 0, .int .i64 0, .int .i64 0, .slice none 0 0, .slice none 0 0]) (t := 30) ?hrun ?_); (case hrun => first | (go_simp; done) | (go_simp; rfl)); clear HS; intro gq w HS) | ((with_reducible refine gate_store (t := 30) (p := 14) rfl ?_); go_must (refine ev_store HS 0 rfl rfl 30 (.tmp 14) (.tmp 47) rfl rfl rfl [.slice Ac code.length cc, .slice Aa arrs.length ca, .int .i64 st, .int .i64 me, .slice Aj jns.length cj, .slice Ai ins.length ci] ?hx (by kernel_rfl) (by rfl) ?h1 ?_); (case hx => first | rfl | (go_simp; done)); (case h1 => simp [Value.oneCell']); clear HS; intro w HS))
  have HP := Aside0.mk (plain_calls (ci := ci) (cj := cj) fu hf0 hf1 (img_old hC hcc hA hca hI 3 rfl) (img_old hC hcc hA hca hJ 3 rfl) HFI.out X Y HX HY HS)
  go_upto_region 8 with (first | ((with_reducible refine gate_load (ty := 30) (p := 13) rfl ?_); go_must (refine ev_load HS 1 rfl rfl 30 (.tmp 13) rfl (N := 49) rfl rfl _ Try.underlying30 rfl (by kernel_rfl) ?_)) | (go_at_call 7; refine HP.out.mono ?_; rintro e w_ ⟨A1, c1, A2, c2, rfl, HS_⟩; clear HS HP; have HS := HS_; clear HS_) | ((with_reducible refine gate_dst (N := 15) rfl ?_); go_must (refine ev_box HS rfl (N := 15) rfl (cs := made0) (t := 33) ?hrun ?_); (case hrun => first | (go_simp; done) | (go_simp; rfl)); clear HS; intro g1 w HS) | ((with_reducible refine gate_store (t := 33) (p := 15) rfl ?_); go_must (refine ev_store HS 0 rfl rfl 33 (.tmp 15) (.tmp 53) rfl rfl rfl [.int .i64 (preO X Y), .bool (allO X Y), .slice A1 X.length c1, .slice A2 Y.length c2] ?hx (by kernel_rfl) (by rfl) ?h1 ?_); (case hx => first | rfl | (go_simp; done)); (case h1 => simp [Value.oneCell']); clear HS; intro w HS))
  have HP := Aside0.mk (plain_calls (ci := cj) (cj := ci) fu hf0 hf1 (img_old hC hcc hA hca hJ 6 rfl) (img_old hC hcc hA hca hI 6 rfl) HFJ.out Y X HY HX HS)
  go_upto_region 9 with (first | ((with_reducible refine gate_load (ty := 30) (p := 14) rfl ?_); go_must (refine ev_load HS 3 rfl rfl 30 (.tmp 14) rfl (N := 56) rfl rfl _ Try.underlying30 rfl (by kernel_rfl) ?_)) | (go_at_call 7; refine HP.out.mono ?_; rintro e w_ ⟨A1', c1', A2', c2', rfl, HS_⟩; clear HS HP; have HS := HS_; clear HS_) | ((with_reducible refine gate_dst (N := 17) rfl ?_); go_must (refine ev_box HS rfl (N := 17) rfl (cs := made0) (t := 33) ?hrun ?_); (case hrun => first | (go_simp; done) | (go_simp; rfl)); clear HS; intro g2 w HS) | ((with_reducible refine gate_store (t := 33) (p := 17) rfl ?_); go_must (refine ev_store HS 0 rfl rfl 33 (.tmp 17) (.tmp 60) rfl rfl rfl [.int .i64 (preO Y X), .bool (allO Y X), .slice A1' Y.length c1', .slice A2' X.length c2'] ?hx (by kernel_rfl) (by rfl) ?h1 ?_); (case hx => first | rfl | (go_simp; done)); (case h1 => simp [Value.oneCell']); clear HS; intro w HS))
  have HT := Aside0.mk (told_calls (ci := ci) (cj := cj) (cs := cs) (img_old hC hcc hA hca hI 9 rfl) (img_old hC hcc hA hca hJ 9 rfl) HFI.out HFJ.out hw0 hw1 (fun w h => Kd.C_below hScr (h.old 9 rfl)) hsl U V HU HV HS)
  go_upto_region 10 with (first | ((with_reducible refine gate_load (ty := 30) (p := 13) rfl ?_); go_must (refine ev_load HS 7 rfl rfl 30 (.tmp 13) rfl (N := 63) rfl rfl _ Try.underlying30 rfl (by kernel_rfl) ?_)) | (go_at_call 8; refine HT.out.mono ?_; rintro e w_ ⟨A1'', c1'', A2'', c2'', rfl, HS_⟩; clear HS HT; have HS := HS_; clear HS_) | ((with_reducible refine gate_dst (N := 19) rfl ?_); go_must (refine ev_box HS rfl (N := 19) rfl (cs := made0) (t := 33) ?hrun ?_); (case hrun => first | (go_simp; done) | (go_simp; rfl)); clear HS; intro g3 w HS) | ((with_reducible refine gate_store (t := 33) (p := 19) rfl ?_); go_must (refine ev_store HS 0 rfl rfl 33 (.tmp 19) (.tmp 69) rfl rfl rfl [.int .i64 (preO U V), .bool (allO U V), .slice A1'' U.length c1'', .slice A2'' V.length c2''] ?hx (by kernel_rfl) (by rfl) ?h1 ?_); (case hx => first | rfl | (go_simp; done)); (case h1 => simp [Value.oneCell']); clear HS; intro w HS))
  have HT := Aside0.mk (told_calls (ci := cj) (cj := ci) (cs := cs) (img_old hC hcc hA hca hJ 12 rfl) (img_old hC hcc hA hca hI 12 rfl) HFJ.out HFI.out hw0 hw1 (fun w h => Kd.C_below hScr (h.old 12 rfl)) hsl V U HV HU HS)
  go_upto_region 11 with (first | ((with_reducible refine gate_load (ty := 30) (p := 14) rfl ?_); go_must (refine ev_load HS 9 rfl rfl 30 (.tmp 14) rfl (N := 72) rfl rfl _ Try.underlying30 rfl (by kernel_rfl) ?_)) | (go_at_call 8; refine HT.out.mono ?_; rintro e w_ ⟨A1t, c1t, A2t, c2t, rfl, HS_⟩; clear HS HT; have HS := HS_; clear HS_) | ((with_reducible refine gate_dst (N := 21) rfl ?_); go_must (refine ev_box HS rfl (N := 21) rfl (cs := made0) (t := 33) ?hrun ?_); (case hrun => first | (go_simp; done) | (go_simp; rfl)); clear HS; intro g4 w HS) | ((with_reducible refine gate_store (t := 33) (p := 21) rfl ?_); go_must (refine ev_store HS 0 rfl rfl 33 (.tmp 21) (.tmp 78) rfl rfl rfl [.int .i64 (preO V U), .bool (allO V U), .slice A1t V.length c1t, .slice A2t U.length c2t] ?hx (by kernel_rfl) (by rfl) ?h1 ?_); (case hx => first | rfl | (go_simp; done)); (case h1 => simp [Value.oneCell']); clear HS; intro w HS))
  rw [hpx.out, hpu.out, hax.out, hau.out] at HS
  have cx := HS.cell 9 rfl
  have cy := HS.cell 6 rfl
  have cu := HS.cell 3 rfl
  have cv := HS.cell 0 rfl
  generalize preO X Y = px at *
  generalize preO U V = pu at *
  generalize allO X Y = qx at *
  generalize allO U V = qu at *
  have e1 : ((px : Int) == (px : Int)) = true := by simp
  have e2 : ((pu : Int) == (pu : Int)) = true := by simp
  have e3 : (px == px) = true := by simp
  have e4 : (pu == pu) = true := by simp
  have e5 : (qx == qx) = true := by simp
  have e6 : (qu == qu) = true := by simp
  have e7 : ((X.length : Int) == (X.length : Int)) = true := by simp
  have e8 : ((U.length : Int) == (U.length : Int)) = true := by simp
  have e9 : (X.length == X.length) = true := by simp
  have e10 : (U.length == U.length) = true := by simp
  go_wp2
  go_ret
  exact ⟨rfl, HS.old 15 rfl⟩
end
set_option maxRecDepth 100000 in
theorem turn_walk {H : Type} {enc : TypeId × Value → H} {d0 d1 d2 d5 : DataW H} {p0 p1 p2 p5 : List MemPlace} (v0 v1 v2 : Value) (a3 a4 : Int) (v5 : Value) (W : World) (h0 : Arg enc Try.prog W 25 v0 d0 p0) (h1 : Arg enc Try.prog W 26 v1 d1 p1) (h2 : Arg enc Try.prog W 26 v2 d2 p2) (_ : (Lit.int .i64 a3).wf = true) (_ : (Lit.int .i64 a4).wf = true) (h5 : Arg enc Try.prog W 27 v5 d5 p5) :
    Calls Try.prog 5 #[v0, v1, v2, .int .i64 a3, .int .i64 a4, v5] W fun e w' => e = .returned (.bool true) ∧ Below W.heap.size W w' := by
  obtain ⟨Ac, cc, code, Aa, ca, arrs, st, mem, rfl, hcc, hca, hC, hA, _⟩ := open_img h0
  obtain ⟨Ai, ci, ins, rfl, hci, hI⟩ := open_rows h1
  obtain ⟨Aj, cj, jns, rfl, hcj, hJ⟩ := open_rows h2
  obtain ⟨As, cs, script, rfl, _, hS⟩ := open_script h5
  obtain ⟨b, hb, hF⟩ := few_tells code arrs st mem ins
  obtain ⟨c, hc, hG⟩ := few_tells code arrs st mem jns
  cases b with
  | false => exact turn_few a3 a4 W hC hcc hA hca hI hci hb
  | true =>
    cases c with
    | false => exact turn_few2 a3 a4 W hC hcc hA hca hI hci hJ hcj hb hc
    | true =>
      by_cases hx : 100 < (script.length : Int)
      · exact turn_long a3 a4 W hC hcc hA hca hI hci hJ hcj hb hc (decide_eq_true hx)
      · exact turn_main a3 a4 W hC hcc hA hca hI hci hJ hcj hb hc (hF rfl) hS (decide_eq_false hx)
end Go.Proofs.Ytkgoljbimblkhaa.B
