/- MachStops: a machine that stops is at its end, and does nothing more: its walk. -/
import Derived.Test.YtigimkcppocodaaMachFew
import Derived.Test.YtigimkcppocodaaSep3
namespace Go.Proofs.Ytigimkcppocodaa.B
open Go.RowKit Go.Proofs.Ytigimkcppocodaa.Mine Go.Proofs.Ytigimkcppocodaa.Sep Go.Proofs.YtigimkcppocodaaW.PrintWords Go.Proofs.YtigimkcppocodaaW.PrintLast Go.Proofs.YtigimkcppocodaaW.PrintMore
set_option linter.unusedVariables false
set_option linter.unusedSimpArgs false

theorem regs_part {s : St} (hs : s.regs.length = 64) : ∀ j v, (s.regs.map (Value.int .i64))[j]? = some v → (stL s).toArray[0 + j]? = some v := fun j v h => by
  rw [Nat.zero_add, List.getElem?_toArray]
  unfold stL
  rw [List.getElem?_append_left (List.getElem?_eq_some_iff.1 h).1]
  exact h
theorem info29 : (Try.prog.info? 29).map (·.size) = some 64 := by kernel_rfl
theorem runN_regs (code : List S58) (fuel : Int) : ∀ (k : Nat) (s : St) (m : List Int), s.regs.length = 64 → (runN code fuel k s m).1.regs.length = 64
  | 0, s, m, h => h
  | k + 1, s, m, h => by
    rw [runN]
    split
    · exact h
    · exact runN_regs code fuel k _ _ (stepF_keeps wF code s m h).1
section
variable {Ac : Option Addr} {cc : Nat} {code : List S58} {Aa : Option Addr} {ca : Nat} {arrs : List S64} {st mem : Int} {Ai : Option Addr} {ci : Nat} {ins : List (List Int)}
def IMG (Ac : Option Addr) (cc : Nat) (code : List S58) (Aa : Option Addr) (ca : Nat) (arrs : List S64) (st mem : Int) : Array Value := #[.slice Ac code.length cc, .slice Aa arrs.length ca, .int .i64 st, .int .i64 mem]
set_option maxRecDepth 100000 in
set_option maxHeartbeats 1000000 in
theorem stops_few (n t : Int) (W : World) (hC : Kd.C k58 W Ac code.length code) (hcc : code.length ≤ cc) (hA : Kd.C k64 W Aa arrs.length arrs) (hca : arrs.length ≤ ca) (hI : Kd.C (Kd.slice 2 (Kd.int .i64)) W Ai ins.length ins) (hci : ins.length ≤ ci)
    (hf : palingslaw19_Few.f 500 code arrs st mem ins = some false) :
    Calls Try.prog 8 #[.agg #[.slice Ac code.length cc, .slice Aa arrs.length ca, .int .i64 st, .int .i64 mem], .slice Ai ins.length ci, .int .i64 n, .int .i64 t] W fun e W' => e = .returned (.bool true) ∧ Below W.heap.size W W' := by
  have HS := Sat.start W
  have HF := Aside0.mk hf
  clear hf
  go_enter Try.func8, Try.ntmps8
  go_upto_region 1 with ((with_reducible refine gate_dst (N := 4) rfl ?_); go_must (refine ev_box HS rfl (N := 4) rfl (cs := #[.slice Ac code.length cc, .slice Aa arrs.length ca, .int .i64 st, .int .i64 mem]) (t := 25) ?hrun ?_); (case hrun => first | (go_simp; done) | (go_simp; rfl)); clear HS; intro gb w HS)
  go_upto_region 3 with (go_at_call 9; (with_reducible refine (head_calls HS).mono ?_); rintro e w_ ⟨rfl, HS_⟩; clear HS; have HS := HS_; clear HS_)
  have cb := HS.cell 0 rfl
  have hb0 := HS.old 1 rfl
  have HC := Aside0.mk (Kd.C_below hC hb0)
  have HA := Aside0.mk (Kd.C_below hA hb0)
  have HI := Aside0.mk (Kd.C_below hI hb0)
  clear hb0
  go_wp2_with (go_at_call 10; (with_reducible refine (palingslaw19_Few.calls 500 _ _ code _ _ arrs st mem _ _ ins false _ HC.out hcc HA.out hca HI.out hci HF.out).mono ?_); rintro e w2 ⟨rfl, hb⟩; replace HS := HS.below hb; clear hb)
  go_ret
  exact ⟨rfl, HS.old 1 rfl⟩
set_option maxRecDepth 100000 in
set_option maxHeartbeats 2000000 in
theorem stops_main (n t : Int) (W : World) (hC : Kd.C k58 W Ac code.length code) (hcc : code.length ≤ cc) (hA : Kd.C k64 W Aa arrs.length arrs) (hca : arrs.length ≤ ca) (hI : Kd.C (Kd.slice 2 (Kd.int .i64)) W Ai ins.length ins) (hci : ins.length ≤ ci)
    (hf : palingslaw19_Few.f 500 code arrs st mem ins = some true) (hr : ∃ k, image_Image_Right.f k code arrs st mem = some true) :
    Calls Try.prog 8 #[.agg #[.slice Ac code.length cc, .slice Aa arrs.length ca, .int .i64 st, .int .i64 mem], .slice Ai ins.length ci, .int .i64 n, .int .i64 t] W fun e W' => e = .returned (.bool true) ∧ Below W.heap.size W W' := by
  obtain ⟨k, hr⟩ := hr
  have hR := right_true hr
  have HR := Aside0.mk hr
  have HS := Sat.start W
  have HF := Aside0.mk hf
  clear hf hr
  obtain ⟨fu, hfu⟩ : ∃ fu, fu = Go.bits .and .i64 n 63 := ⟨_, rfl⟩
  have hfu0 : 0 ≤ fu := by rw [hfu, and63]; omega
  have hfu1 : fu ≤ 100000 := by rw [hfu, and63]; omega
  have HFU := Aside0.mk hfu
  clear hfu
  have hob : ∀ w : World, (binOp .neq 53 (.agg #[.int .i64 5, .int .i64 t, .int .i64 0]) (.agg #[.int .i64 5, .int .i64 t, .int .i64 0])).run Try.prog w = .ok (.bool false) w := fun w => by
    rw [run_neq_struct, eqA53 9998]
    simp [Result.andThen]
  go_enter Try.func8, Try.ntmps8
  go_upto_region 1 with ((with_reducible refine gate_dst (N := 4) rfl ?_); go_must (refine ev_box HS rfl (N := 4) rfl (cs := #[.slice Ac code.length cc, .slice Aa arrs.length ca, .int .i64 st, .int .i64 mem]) (t := 25) ?hrun ?_); (case hrun => first | (go_simp; done) | (go_simp; rfl)); clear HS; intro gb w HS)
  go_upto_region 3 with (go_at_call 9; (with_reducible refine (head_calls HS).mono ?_); rintro e w_ ⟨rfl, HS_⟩; clear HS; have HS := HS_; clear HS_)
  have cb := HS.cell 0 rfl
  have hb0 := HS.old 1 rfl
  have HC := Aside0.mk (Kd.C_below hC hb0)
  have HA := Aside0.mk (Kd.C_below hA hb0)
  have HI := Aside0.mk (Kd.C_below hI hb0)
  clear hb0
  go_upto_region 5 with (go_at_call 10; (with_reducible refine (palingslaw19_Few.calls 500 _ _ code _ _ arrs st mem _ _ ins true _ HC.out hcc HA.out hca HI.out hci HF.out).mono ?_); rintro e w2 ⟨rfl, hb⟩; replace HS := HS.below hb; clear hb)
  have cb := HS.cell 0 rfl
  have hrl : (runF code fu (beginS st) (startF ins arrs mem)).1.regs.length = 64 := runN_regs _ _ _ _ _ (begin_len st)
  obtain ⟨r, hr⟩ : ∃ r, r = runF code fu (beginS st) (startF ins arrs mem) := ⟨_, rfl⟩
  rw [← hr] at hrl
  have R := run_calls (ca := ca) (ci := ci) fu hfu0 hfu1 (fun w h => Kd.C_below hC (h.old 1 rfl)) hcc (fun w h => Kd.C_below hA (h.old 1 rfl)) hca (fun w h => Kd.C_below hI (h.old 1 rfl)) HR.out HS
  rw [← hr] at R
  rw [HFU.out] at R
  have HRR := Aside0.mk R
  clear R hr
  go_upto_region 6 with (first | (go_at_call 17; (with_reducible refine HRR.out.mono ?_); rintro e w3 ⟨Am, nm, cm, v, rfl, HS_⟩; clear HS; have HS := HS_; clear HS_) | ((with_reducible refine gate_dst (N := 9) rfl ?_); go_must (refine ev_box HS rfl (N := 9) rfl (cs := (stL z0).toArray) (t := 32) ?hrun ?_); (case hrun => first | (go_simp; done) | (go_simp; rfl)); clear HS; intro g9 w HS) | ((with_reducible refine gate_store (t := 32) (p := 9) rfl ?_); go_must (refine ev_store HS 0 rfl rfl 32 (.tmp 9) (.tmp 28) rfl rfl rfl (stL r.1) rfl (len32 hrl) (by simp [stL_length hrl]; rfl) (stL_one _) ?_); clear HS; intro w HS))
  clear HRR
  go_upto_region 9 with (first | ((with_reducible refine gate_load (ty := 32) (p := 9) rfl ?_); go_must (refine ev_load HS 0 rfl rfl 32 (.tmp 9) rfl (N := 34) rfl rfl _ Try.underlying32 rfl (size32 hrl) ?_)) | ((with_reducible refine gate_dst (N := 13) rfl ?_); go_must (refine ev_box HS rfl (N := 13) rfl (cs := (stL z0).toArray) (t := 32) ?hrun ?_); (case hrun => first | (go_simp; done) | (go_simp; rfl)); clear HS; intro g13 w HS) | ((with_reducible refine gate_store (t := 32) (p := 13) rfl ?_); go_must (refine ev_store HS 0 rfl rfl 32 (.tmp 13) (.tmp 34) rfl rfl rfl (stL (r.1)) rfl (len32 hrl) (by simp [stL_length (s := r.1) hrl]; rfl) (stL_one _) ?_); clear HS; intro w HS))
  have R := stop_calls (wMem g9 Am nm cm) t hrl ((HS.front 3 rfl).front 2 rfl).join
  have HRR := Aside0.mk R
  clear R
  go_upto_region 10 with (first | (go_at_call 21; (with_reducible refine (HRR.out).mono ?_); rintro e w_ ⟨rfl, HS_⟩; clear HS; have HS := HS_; clear HS_) | ((with_reducible refine gate_dst (N := 14) rfl ?_); go_must (refine ev_box HS rfl (N := 14) rfl (cs := #[.int .i64 0, .int .i64 0, .int .i64 0]) (t := 53) ?hrun ?_); (case hrun => first | (go_simp; done) | (go_simp; rfl)); clear HS; intro g14 w HS) | ((with_reducible refine gate_store (t := 53) (p := 14) rfl ?_); go_must (refine ev_store HS 0 rfl rfl 53 (.tmp 14) (.tmp 36) rfl rfl rfl [.int .i64 5, .int .i64 t, .int .i64 0] ?hx (by kernel_rfl) (by rfl) ?h1 ?_); (case hx => first | rfl | (go_simp; done)); (case h1 => simp [Value.oneCell']); clear HS; intro w HS))
  clear HRR
  replace HS := Sat.split (HS.front 1 rfl)
  obtain ⟨s, hs⟩ : ∃ s, s = stopF r.1 t := ⟨_, rfl⟩
  have hsl : s.regs.length = 64 := by rw [hs]; exact hrl
  have e1 : s.ended = true := by rw [hs]; rfl
  have e2 : s.trap = t := by rw [hs]; rfl
  have e3 : s.pc = r.1.pc := by rw [hs]; rfl
  have e4 : s.steps = r.1.steps := by rw [hs]; rfl
  have e5 : s.regs = r.1.regs := by rw [hs]; rfl
  rw [← hs] at HS
  clear hs
  have c65 := (st_cell HS 0 rfl 65).trans (stL_ended hsl)
  have c67 := (st_cell HS 0 rfl 67).trans (stL_trap hsl)
  have c64 := (st_cell HS 0 rfl 64).trans (stL_pc hsl)
  have c68 := (st_cell HS 0 rfl 68).trans (stL_steps hsl)
  have d64 := (st_cell HS 3 rfl 64).trans (stL_pc hrl)
  have d68 := (st_cell HS 3 rfl 68).trans (stL_steps hrl)
  have co := HS.cell 2 rfl
  have cb := HS.cell 5 rfl
  rw [e1] at c65
  rw [e2] at c67
  rw [← e3] at d64
  rw [← e4] at d68
  have hrn := regs_neq r.1.regs hrl
  have E1 := Aside0.mk e1
  have E5 := Aside0.mk e5
  clear e1 e2 e3 e4 e5
  go_upto_region 12 with (first | ((with_reducible refine gate_load (ty := 29) (p := 67) rfl ?_); (refine gate_guard (by rfl) ?_); dsimp only; go_must (refine ev_load_part HS 0 rfl rfl 29 (.tmp 67) rfl (N := 68) rfl 0 rfl _ Try.underlying29 rfl (r.1.regs.map (Value.int .i64)) (by rw [info29, List.length_map, hrl]) (by rw [← E5.out]; exact regs_part hsl) ?_)) | ((with_reducible refine gate_load (ty := 29) (p := 69) rfl ?_); (refine gate_guard (by rfl) ?_); dsimp only; go_must (refine ev_load_part HS 3 rfl rfl 29 (.tmp 69) rfl (N := 70) rfl 0 rfl _ Try.underlying29 rfl (r.1.regs.map (Value.int .i64)) (by rw [info29, List.length_map, hrl]) (regs_part hrl) ?_)))
  clear hrn
  go_upto_region 13 with (first | ((with_reducible refine gate_load (ty := 32) (p := 9) rfl ?_); go_must (refine ev_load HS 0 rfl rfl 32 (.tmp 9) rfl (N := 73) rfl rfl _ Try.underlying32 rfl (size32 hsl) ?_)) | ((with_reducible refine gate_dst (N := 15) rfl ?_); go_must (refine ev_box HS rfl (N := 15) rfl (cs := (stL z0).toArray) (t := 32) ?hrun ?_); (case hrun => first | (go_simp; done) | (go_simp; rfl)); clear HS; intro g15 w HS) | ((with_reducible refine gate_store (t := 32) (p := 15) rfl ?_); go_must (refine ev_store HS 0 rfl rfl 32 (.tmp 15) (.tmp 73) rfl rfl rfl (stL (s)) rfl (len32 hsl) (by simp [stL_length (s := s) hsl]; rfl) (stL_one _) ?_); clear HS; intro w HS))
  have cb := HS.cell 6 rfl
  have R := step_calls (wMem g9 Am nm cm) (c := cc) (fun w h => Kd.C_below hC (h.old 5 rfl)) hR.fits trivial hsl ((HS.front 2 rfl).front 2 rfl).join
  change Calls _ _ #[.pointer (some ⟨g9, 0, none⟩), .slice Ac code.length cc, .iface 35 (.slice Am nm cm)] _ (DoPost (wMem g9 Am nm cm) W _ (stepF wF code s r.2.1)) at R
  rw [show stepF wF code s r.2.1 = (s, r.2.1, []) by unfold stepF; rw [if_pos E1.out]] at R
  have HRR := Aside0.mk R
  clear R
  have hse := same_eql s hsl
  go_wp2_with (first | (go_at_call 13; (with_reducible refine HRR.out.mono ?_); rintro e w_ ⟨v0, rfl, HS_⟩; clear HS; have HS := Sat.split (HS_.front 1 rfl); clear HS_; obtain ⟨Av, cv, rfl⟩ := HS.slice 2 rfl) | ((with_reducible refine gate_load (ty := 32) (p := 9) rfl ?_); (refine gate_guard (by rfl) ?_); dsimp only; go_must (refine ev_load HS 0 rfl rfl 32 (.tmp 9) rfl (N := 82) rfl rfl _ Try.underlying32 rfl (size32 hsl) ?_)) | ((with_reducible refine gate_load (ty := 32) (p := 15) rfl ?_); (refine gate_guard (by rfl) ?_); dsimp only; go_must (refine ev_load HS 3 rfl rfl 32 (.tmp 15) rfl (N := 83) rfl rfl _ Try.underlying32 rfl (size32 hsl) ?_)))
  go_ret
  exact ⟨rfl, HS.old 8 rfl⟩
end
theorem stops_walk {H : Type} {enc : TypeId × Value → H} {d0 d1 : DataW H} {p0 p1 : List MemPlace} (v0 v1 : Value) (n t : Int) (W : World) (h0 : Arg enc Try.prog W 25 v0 d0 p0) (h1 : Arg enc Try.prog W 26 v1 d1 p1) (_ : (Lit.int .i64 n).wf = true) (_ : (Lit.int .i64 t).wf = true) :
    Calls Try.prog 8 #[v0, v1, .int .i64 n, .int .i64 t] W fun e w' => e = .returned (.bool true) ∧ Below W.heap.size W w' := by
  obtain ⟨Ac, cc, code, Aa, ca, arrs, st, mem, rfl, hcc, hca, hC, hA, _, _, _⟩ := open_img h0
  obtain ⟨Ai, ci, ins, rfl, hci, hI⟩ := open_rows h1
  obtain ⟨b, hb, hF⟩ := few_tells code arrs st mem ins
  cases b with
  | false => exact stops_few n t W hC hcc hA hca hI hci hb
  | true => exact stops_main n t W hC hcc hA hca hI hci hb (hF rfl).right
end Go.Proofs.Ytigimkcppocodaa.B
