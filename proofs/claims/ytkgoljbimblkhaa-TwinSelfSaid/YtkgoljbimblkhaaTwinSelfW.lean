/- TwinSelf: on one input both runs are seen to do the same, for every image, every input, every window and every script. -/
import Derived.Test.YtkgoljbimblkhaaTwinLaw
namespace Go.Proofs.Ytkgoljbimblkhaa.B
open Go.RowKit Go.Proofs.Ytkgoljbimblkhaa.Mine Go.Proofs.Ytkgoljbimblkhaa.Sep Go.Proofs.YtkgoljbimblkhaaW.PrintWords Go.Proofs.YtkgoljbimblkhaaW.PrintLast Go.Proofs.YtkgoljbimblkhaaW.PrintMore
set_option linter.unusedVariables false
set_option linter.unusedSimpArgs false
section
variable {Ac : Option Addr} {cc : Nat} {code : List S56} {Aa : Option Addr} {ca : Nat} {arrs : List S60} {st me : Int} {Ai : Option Addr} {ci : Nat} {ins : List (List Int)} {Aj : Option Addr} {cj : Nat} {jns : List (List Int)} {As : Option Addr} {cs : Nat} {script : List (Int × Int)}
set_option maxRecDepth 100000 in
set_option maxHeartbeats 2000000 in
theorem self_few (a2 : Int) (W : World) (hC : Kd.C k56 W Ac code.length code) (hcc : code.length ≤ cc) (hA : Kd.C k60 W Aa arrs.length arrs) (hca : arrs.length ≤ ca) (hI : Kd.C (Kd.slice 2 (Kd.int .i64)) W Ai ins.length ins) (hci : ins.length ≤ ci) (hf : palingslaw19_Few.f 500 code arrs st me ins = some false) :
    Calls Try.prog 4 #[.agg #[.slice Ac code.length cc, .slice Aa arrs.length ca, .int .i64 st, .int .i64 me], .slice Ai ins.length ci, .int .i64 a2, .slice As script.length cs] W fun e W' => e = .returned (.bool true) ∧ Below W.heap.size W W' := by
  have HS := Sat.start W
  have HF := Aside0.mk hf
  clear hf
  go_enter Try.func4, Try.ntmps4
  go_upto_region 1 with ((with_reducible refine gate_dst (N := 4) rfl ?_); go_must (refine ev_box HS rfl (N := 4) rfl (cs := #[.slice Ac code.length cc, .slice Aa arrs.length ca, .int .i64 st, .int .i64 me]) (t := 25) ?hrun ?_); (case hrun => first | (go_simp; done) | (go_simp; rfl)); clear HS; intro gb w HS)
  go_upto_region 3 with (go_at_call 6; refine (head_calls HS).mono ?_; rintro e w_ ⟨rfl, HS_⟩; clear HS; have HS := HS_; clear HS_)
  have cb := HS.cell 0 rfl
  have hb0 := HS.old 1 rfl
  have HC := Aside0.mk (Kd.C_below hC hb0)
  have HA := Aside0.mk (Kd.C_below hA hb0)
  have HI := Aside0.mk (Kd.C_below hI hb0)
  clear hb0
  go_wp2_with (first | ((with_reducible refine gate_load (ty := 25) (p := 4) rfl ?_); go_must (refine ev_load HS 0 rfl rfl 25 (.tmp 4) rfl (N := 16) rfl rfl _ Try.underlying25 rfl (by kernel_rfl) ?_)) | (go_at_call 10; (with_reducible refine (palingslaw19_Few.calls 500 _ _ code _ _ arrs st me _ _ ins false _ HC.out hcc HA.out hca HI.out hci HF.out).mono ?_); rintro e w2 ⟨rfl, hb⟩; replace HS := HS.below hb; clear hb; have cb := HS.cell 0 rfl))
  go_ret
  exact ⟨rfl, HS.old 1 rfl⟩

set_option maxRecDepth 100000 in
set_option maxHeartbeats 2000000 in
theorem self_long (a2 : Int) (W : World) (hC : Kd.C k56 W Ac code.length code) (hcc : code.length ≤ cc) (hA : Kd.C k60 W Aa arrs.length arrs) (hca : arrs.length ≤ ca) (hI : Kd.C (Kd.slice 2 (Kd.int .i64)) W Ai ins.length ins) (hci : ins.length ≤ ci) (hf : palingslaw19_Few.f 500 code arrs st me ins = some true) (hx : decide (100 < (script.length : Int)) = true) :
    Calls Try.prog 4 #[.agg #[.slice Ac code.length cc, .slice Aa arrs.length ca, .int .i64 st, .int .i64 me], .slice Ai ins.length ci, .int .i64 a2, .slice As script.length cs] W fun e W' => e = .returned (.bool true) ∧ Below W.heap.size W W' := by
  have HS := Sat.start W
  have HF := Aside0.mk hf
  clear hf
  go_enter Try.func4, Try.ntmps4
  go_upto_region 1 with ((with_reducible refine gate_dst (N := 4) rfl ?_); go_must (refine ev_box HS rfl (N := 4) rfl (cs := #[.slice Ac code.length cc, .slice Aa arrs.length ca, .int .i64 st, .int .i64 me]) (t := 25) ?hrun ?_); (case hrun => first | (go_simp; done) | (go_simp; rfl)); clear HS; intro gb w HS)
  go_upto_region 3 with (go_at_call 6; refine (head_calls HS).mono ?_; rintro e w_ ⟨rfl, HS_⟩; clear HS; have HS := HS_; clear HS_)
  have cb := HS.cell 0 rfl
  have hb0 := HS.old 1 rfl
  have HC := Aside0.mk (Kd.C_below hC hb0)
  have HA := Aside0.mk (Kd.C_below hA hb0)
  have HI := Aside0.mk (Kd.C_below hI hb0)
  clear hb0
  go_wp2_with (first | ((with_reducible refine gate_load (ty := 25) (p := 4) rfl ?_); go_must (refine ev_load HS 0 rfl rfl 25 (.tmp 4) rfl (N := 16) rfl rfl _ Try.underlying25 rfl (by kernel_rfl) ?_)) | (go_at_call 10; (with_reducible refine (palingslaw19_Few.calls 500 _ _ code _ _ arrs st me _ _ ins true _ HC.out hcc HA.out hca HI.out hci HF.out).mono ?_); rintro e w2 ⟨rfl, hb⟩; replace HS := HS.below hb; clear hb; have cb := HS.cell 0 rfl))
  go_ret
  exact ⟨rfl, HS.old 1 rfl⟩

set_option maxRecDepth 100000 in
set_option maxHeartbeats 2000000 in
theorem self_main (a2 : Int) (W : World) (hC : Kd.C k56 W Ac code.length code) (hcc : code.length ≤ cc) (hA : Kd.C k60 W Aa arrs.length arrs) (hca : arrs.length ≤ ca) (hI : Kd.C (Kd.slice 2 (Kd.int .i64)) W Ai ins.length ins) (hci : ins.length ≤ ci) (hf : palingslaw19_Few.f 500 code arrs st me ins = some true) (hF : Fews code arrs st me ins) (hScr : Kd.C kDeed W As script.length script) (hx : decide (100 < (script.length : Int)) = false) :
    Calls Try.prog 4 #[.agg #[.slice Ac code.length cc, .slice Aa arrs.length ca, .int .i64 st, .int .i64 me], .slice Ai ins.length ci, .int .i64 a2, .slice As script.length cs] W fun e W' => e = .returned (.bool true) ∧ Below W.heap.size W W' := by
  have HS := Sat.start W
  have HF := Aside0.mk hf
  clear hf
  obtain ⟨B, hB⟩ : ∃ B, B = Go.bits .and .i64 a2 31 := ⟨_, rfl⟩
  have hB0 : 0 ≤ B := by rw [hB, and31]; omega
  have hB1 : B ≤ 31 := by rw [hB, and31]; omega
  have hbits : Go.bits .and .i64 a2 31 = B := hB.symm
  obtain ⟨win, hwin⟩ : ∃ win, 1 + B = win := ⟨_, rfl⟩
  have hw : wrap64 win = win := w64 _ (by omega) (by omega)
  have hw0 : 1 ≤ win := by omega
  have hw1 : win ≤ 1000 := by omega
  clear hB
  have HFI := Aside0.mk (fine_of (ins := ins) hF.right)
  have hsl : script.length ≤ 1000 := by have := of_decide_eq_false hx; omega
  obtain ⟨X, hX⟩ : ∃ X, X = seenP code st me 60 arrs ins := ⟨_, rfl⟩
  obtain ⟨Y, hY⟩ : ∃ Y, Y = seenT code st me win arrs ins script := ⟨_, rfl⟩
  have HX := Aside0.mk hX
  have HY := Aside0.mk hY
  have hpx := Aside0.mk (preO_refl X)
  have hpy := Aside0.mk (preO_refl Y)
  have hax := Aside0.mk (allO_refl X)
  have hay := Aside0.mk (allO_refl Y)
  clear hX hY
  go_enter Try.func4, Try.ntmps4
  go_upto_region 1 with ((with_reducible refine gate_dst (N := 4) rfl ?_); go_must (refine ev_box HS rfl (N := 4) rfl (cs := #[.slice Ac code.length cc, .slice Aa arrs.length ca, .int .i64 st, .int .i64 me]) (t := 25) ?hrun ?_); (case hrun => first | (go_simp; done) | (go_simp; rfl)); clear HS; intro gb w HS)
  go_upto_region 3 with (go_at_call 6; refine (head_calls HS).mono ?_; rintro e w_ ⟨rfl, HS_⟩; clear HS; have HS := HS_; clear HS_)
  have cb := HS.cell 0 rfl
  have hb0 := HS.old 1 rfl
  have HC := Aside0.mk (Kd.C_below hC hb0)
  have HA := Aside0.mk (Kd.C_below hA hb0)
  have HI := Aside0.mk (Kd.C_below hI hb0)
  clear hb0
  go_upto_region 5 with (first | ((with_reducible refine gate_load (ty := 25) (p := 4) rfl ?_); go_must (refine ev_load HS 0 rfl rfl 25 (.tmp 4) rfl (N := 16) rfl rfl _ Try.underlying25 rfl (by kernel_rfl) ?_)) | (go_at_call 10; (with_reducible refine (palingslaw19_Few.calls 500 _ _ code _ _ arrs st me _ _ ins true _ HC.out hcc HA.out hca HI.out hci HF.out).mono ?_); rintro e w2 ⟨rfl, hb⟩; replace HS := HS.below hb; clear hb; have cb := HS.cell 0 rfl))
  clear HC HA HI
  go_upto_region 6 with (first | ((with_reducible refine gate_load (ty := 25) (p := 4) rfl ?_); go_must (refine ev_load HS 0 rfl rfl 25 (.tmp 4) rfl (N := 25) rfl rfl _ Try.underlying25 rfl (by kernel_rfl) ?_)) | ((with_reducible refine gate_dst (N := 9) rfl ?_); go_must (refine ev_box HS rfl (N := 9) rfl (cs := #[.slice none 0 0, .slice none 0 0, .int .i64 0, .int .i64 0, .slice none 0 0, .slice none 0 0]) (t := 30) ?hrun ?_); (case hrun => first | (go_simp; done) | (go_simp; rfl)); clear HS; intro gp w HS) | ((with_reducible refine gate_store (t := 30) (p := 9) rfl ?_); go_must (refine ev_store HS 0 rfl rfl 30 (.tmp 9) (.tmp 28) rfl rfl rfl [.slice Ac code.length cc, .slice Aa arrs.length ca, .int .i64 st, .int .i64 me, .slice Ai ins.length ci, .slice Ai ins.length ci] ?hx (by kernel_rfl) (by rfl) ?h1 ?_); (case hx => first | rfl | (go_simp; done)); (case h1 => simp [Value.oneCell']); clear HS; intro w HS))
  have HP := Aside0.mk (plain_calls (ci := ci) (cj := ci) 60 (by decide) (by decide) (img_old hC hcc hA hca hI 2 rfl) (img_old hC hcc hA hca hI 2 rfl) HFI.out X X HX HX HS)
  go_upto_region 7 with (first | ((with_reducible refine gate_load (ty := 30) (p := 9) rfl ?_); go_must (refine ev_load HS 0 rfl rfl 30 (.tmp 9) rfl (N := 30) rfl rfl _ Try.underlying30 rfl (by kernel_rfl) ?_)) | (go_at_call 7; refine HP.out.mono ?_; rintro e w_ ⟨A1, c1, A2, c2, rfl, HS_⟩; clear HS HP; have HS := HS_; clear HS_) | ((with_reducible refine gate_dst (N := 10) rfl ?_); go_must (refine ev_box HS rfl (N := 10) rfl (cs := made0) (t := 33) ?hrun ?_); (case hrun => first | (go_simp; done) | (go_simp; rfl)); clear HS; intro g1 w HS) | ((with_reducible refine gate_store (t := 33) (p := 10) rfl ?_); go_must (refine ev_store HS 0 rfl rfl 33 (.tmp 10) (.tmp 32) rfl rfl rfl [.int .i64 (preO X X), .bool (allO X X), .slice A1 X.length c1, .slice A2 X.length c2] ?hx (by kernel_rfl) (by rfl) ?h1 ?_); (case hx => first | rfl | (go_simp; done)); (case h1 => simp [Value.oneCell']); clear HS; intro w HS))
  have HT := Aside0.mk (told_calls (ci := ci) (cj := ci) (cs := cs) (img_old hC hcc hA hca hI 5 rfl) (img_old hC hcc hA hca hI 5 rfl) HFI.out HFI.out hw0 hw1 (fun w h => Kd.C_below hScr (h.old 5 rfl)) hsl Y Y HY HY HS)
  go_upto_region 8 with (first | ((with_reducible refine gate_load (ty := 30) (p := 9) rfl ?_); go_must (refine ev_load HS 3 rfl rfl 30 (.tmp 9) rfl (N := 35) rfl rfl _ Try.underlying30 rfl (by kernel_rfl) ?_)) | (go_at_call 8; refine HT.out.mono ?_; rintro e w_ ⟨A1', c1', A2', c2', rfl, HS_⟩; clear HS HT; have HS := HS_; clear HS_) | ((with_reducible refine gate_dst (N := 12) rfl ?_); go_must (refine ev_box HS rfl (N := 12) rfl (cs := made0) (t := 33) ?hrun ?_); (case hrun => first | (go_simp; done) | (go_simp; rfl)); clear HS; intro g2 w HS) | ((with_reducible refine gate_store (t := 33) (p := 12) rfl ?_); go_must (refine ev_store HS 0 rfl rfl 33 (.tmp 12) (.tmp 41) rfl rfl rfl [.int .i64 (preO Y Y), .bool (allO Y Y), .slice A1' Y.length c1', .slice A2' Y.length c2'] ?hx (by kernel_rfl) (by rfl) ?h1 ?_); (case hx => first | rfl | (go_simp; done)); (case h1 => simp [Value.oneCell']); clear HS; intro w HS))
  rw [hpx.out, hpy.out, hax.out, hay.out] at HS
  have cx := HS.cell 3 rfl
  have cy := HS.cell 0 rfl
  have ex : ((X.length : Int) == (X.length : Int)) = true := by simp
  have ey : ((Y.length : Int) == (Y.length : Int)) = true := by simp
  have ex' : (X.length == X.length) = true := by simp
  have ey' : (Y.length == Y.length) = true := by simp
  go_wp2
  go_ret
  exact ⟨rfl, HS.old 8 rfl⟩
end
set_option maxRecDepth 100000 in
theorem self_walk {H : Type} {enc : TypeId × Value → H} {d0 d1 d3 : DataW H} {p0 p1 p3 : List MemPlace} (v0 v1 : Value) (a2 : Int) (v3 : Value) (W : World) (h0 : Arg enc Try.prog W 25 v0 d0 p0) (h1 : Arg enc Try.prog W 26 v1 d1 p1) (_ : (Lit.int .i64 a2).wf = true) (h3 : Arg enc Try.prog W 27 v3 d3 p3) :
    Calls Try.prog 4 #[v0, v1, .int .i64 a2, v3] W fun e w' => e = .returned (.bool true) ∧ Below W.heap.size W w' := by
  obtain ⟨Ac, cc, code, Aa, ca, arrs, st, mem, rfl, hcc, hca, hC, hA, _⟩ := open_img h0
  obtain ⟨Ai, ci, ins, rfl, hci, hI⟩ := open_rows h1
  obtain ⟨As, cs, script, rfl, _, hS⟩ := open_script h3
  obtain ⟨b, hb, hF⟩ := few_tells code arrs st mem ins
  cases b with
  | false => exact self_few a2 W hC hcc hA hca hI hci hb
  | true =>
    by_cases hx : 100 < (script.length : Int)
    · exact self_long a2 W hC hcc hA hca hI hci hb (decide_eq_true hx)
    · exact self_main a2 W hC hcc hA hca hI hci hb (hF rfl) hS (decide_eq_false hx)
end Go.Proofs.Ytkgoljbimblkhaa.B
