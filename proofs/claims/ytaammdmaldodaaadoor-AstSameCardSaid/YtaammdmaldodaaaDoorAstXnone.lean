import Derived.Test.YtaammdmaldodaaaDoorAstSameW
namespace Go.Proofs.YtaammdmaldodaaaDoor.B
open Go.RowKit Go.Proofs.YtaammdmaldodaaaDoor.Mine Go.Proofs.YtaammdmaldodaaaDoor.Sep Go.Proofs.YtaammdmaldodaaaDoorW.PrintWords Go.Proofs.YtaammdmaldodaaaDoorW.PrintLast Go.Proofs.YtaammdmaldodaaaDoorW.PrintMore
set_option linter.unusedVariables false
set_option linter.unusedSimpArgs false
set_option maxRecDepth 100000 in
set_option maxHeartbeats 4000000 in
theorem asame_none (e : S31) (A : Option Addr) (c : Nat) (which n : Int) (W : World) (hG : GL W) (hcap : e.f5.length ≤ c) (hC : Kd.C k31 W A e.f5.length e.f5) (hf : fewN 9 e = true) (B : Int) (hB : Go.bits .and .i64 which 7 = B) (q0 : (B == 0) = false) (q1 : (B == 1) = false) (q2 : (B == 2) = false) (q3 : (B == 3) = false) (q4 : (B == 4) = false) (hk0 : Aside0 (e.f5.length = 0)) :
    Calls Tryd.prog 4 #[.agg #[.int .i64 e.f0, .int .i64 e.f1.f0, .int .i64 e.f1.f1, .int .i64 e.f2, .string e.f3, .int .i64 e.f4, .slice A e.f5.length c], .int .i64 which, .int .i64 n] W fun r W' => r = .returned (.bool true) ∧ Below W.heap.size W W' := by
  have HS := Sat.start W
  obtain ⟨nm, hnm⟩ : ∃ nm, e.f3 = bs nm := ⟨_, (bs_eta e.f3).symm⟩
  have HNM := Aside0.mk hnm
  rw [hnm]
  have HFC := Aside0.mk (fun (w : World) (hb : Below W.heap.size W w) => palingslaw03_Few.calls 200 e.f0 e.f1.f0 e.f1.f1 e.f2 (bs nm) e.f4 A c e.f5 0 _ w (Kd.C_below hC hb) hcap (by rw [← hnm]; exact few_f 9 0 (by omega) (by omega) e 200 (by omega)))
  have HSC := Aside0.mk (fun (w : World) (hb : Below W.heap.size W w) => palingslaw03_shift.calls 200 e.f0 e.f1.f0 e.f1.f1 e.f2 (bs nm) e.f4 A c e.f5 n _ _ _ _ _ _ _ w (Kd.C_below hC hb) hcap (by rw [← hnm]; exact shift_f 9 n e 200 hf (by omega)))
  have hE : (⟨e.f0, e.f1, e.f2, bs nm, e.f4, e.f5⟩ : S31) = e := by rw [← hnm]; exact eta_E e
  have hnl : nm.length ≤ MX := by
    have h1 := few_mx hf
    obtain ⟨k_, p_, num_, name_, op_, kids_⟩ := e
    rw [szE] at h1
    have h2 : name_ = bs nm := hnm
    rw [h2] at h1
    change _ + nm.length + _ ≤ _ at h1
    omega
  obtain ⟨kd, hkd⟩ : ∃ kd, kd = e.f5.map (shf n) := ⟨_, rfl⟩
  have hsh : sameE e ⟨e.f0, ⟨n, n⟩, e.f2, bs nm, e.f4, kd⟩ = true := by
    have := sameE_shf n e
    rw [shf_eq, hnm] at this
    rw [hkd]
    exact this
  have hkl : kd.length = e.f5.length := by rw [hkd, List.length_map]
  have HKS := Aside0.mk (show kd.length ≤ 6 from by
    rw [fewN] at hf
    simp only [Bool.and_eq_true, decide_eq_true_eq] at hf
    rw [hkl]
    exact hf.1)
  rw [hf] at HFC
  have HKD := Aside0.mk hkd
  have HSH := Aside0.mk hsh
  have HEE := Aside0.mk (show k31.K W e _ from k31_mk W e hcap hC)
  rw [hnm] at HEE
  have HKL := Aside0.mk hkl
  rw [← hkd, hnm] at HSC
  clear hf hnm hE hkd hsh hkl 
  go_enter Tryd.func4, Tryd.ntmps4
  go_upto_region 1 with ((with_reducible refine gate_dst (N := 3) rfl ?_); go_must (refine ev_box HS rfl (N := 3) rfl (cs := #[.int .i64 e.f0, .int .i64 e.f1.f0, .int .i64 e.f1.f1, .int .i64 e.f2, .string (bs nm), .int .i64 e.f4, .slice A e.f5.length c]) (t := 31) ?hrun ?_); (case hrun => first | (go_simp; done) | (go_simp; rfl)); clear HS; intro g3 w HS)
  go_upto_region 3 with (go_at_call 7; refine (head_calls (fun w h => hG.below (h.old 1 rfl)) HS).mono ?_; rintro r w_ ⟨rfl, HS_⟩; clear HS; have HS := HS_; clear HS_)
  go_upto_region 5 with (first | ((with_reducible refine gate_dst (N := 14) rfl ?_); ((with_reducible refine gate_load (ty := 31) (p := 3) rfl ?_); go_must (refine ev_load HS 0 rfl rfl 31 (.tmp 3) rfl (N := 14) rfl rfl _ Tryd.underlying31 rfl (by kernel_rfl) ?_))) | (go_at_call 9; refine (HFC.out _ (HS.old 1 rfl)).mono ?_; rintro r w_ ⟨rfl, hb⟩; replace HS := HS.below hb; clear hb))
  go_upto_region 6 with (first | ((with_reducible refine gate_dst (N := 17) rfl ?_); ((with_reducible refine gate_load (ty := 31) (p := 3) rfl ?_); go_must (refine ev_load HS 0 rfl rfl 31 (.tmp 3) rfl (N := 17) rfl rfl _ Tryd.underlying31 rfl (by kernel_rfl) ?_))) | (go_at_call 10; refine (HSC.out _ (HS.old 1 rfl)).mono ?_; rintro r w_ ⟨v6, rfl, hR, hb⟩; have HS2 := Sat.made HS hb hR; clear HS hb hR; have HS := HS2; clear HS2; obtain ⟨Av, cv, rfl⟩ := HS.slice 0 rfl) | ((with_reducible refine gate_dst (N := 7) rfl ?_); go_must (refine ev_box HS rfl (N := 7) rfl (cs := #[.int .i64 0, .int .i64 0, .int .i64 0, .int .i64 0, .string ⟨#[]⟩, .int .i64 0, .slice none 0 0]) (t := 31) ?hrun ?_); (case hrun => first | (go_simp; done) | (go_simp; rfl)); clear HS; intro g7 w HS) | ((with_reducible refine gate_store (t := 31) (p := 7) rfl ?_); go_must (refine ev_store HS 0 rfl rfl 31 (.tmp 7) (.tmp 19) rfl rfl rfl [.int .i64 e.f0, .int .i64 n, .int .i64 n, .int .i64 e.f2, .string (bs nm), .int .i64 e.f4, .slice Av kd.length cv] ?hx (by kernel_rfl) (by rfl) ?h1 ?_); (case hx => first | rfl | (go_simp; done)); (case h1 => simp [Value.oneCell']); clear HS; intro w HS))
  have hcv := (HS.cap 1 rfl).2
  have HCV := Aside0.mk hcv
  clear hcv
  have HK1 := Aside0.mk (fun (w : World) (h : Sat W w ([blk g7 31 #[.int .i64 e.f0, .int .i64 n, .int .i64 n, .int .i64 e.f2, .string (bs nm), .int .i64 e.f4, .slice Av kd.length cv], row k31 31 (.slice Av kd.length cv) kd, blk g3 31 #[.int .i64 e.f0, .int .i64 e.f1.f0, .int .i64 e.f1.f1, .int .i64 e.f2, .string (bs nm), .int .i64 e.f4, .slice A e.f5.length c], old W])) => show Calls Tryd.prog 11 #[.agg #[.int .i64 e.f0, .int .i64 e.f1.f0, .int .i64 e.f1.f1, .int .i64 e.f2, .string (bs nm), .int .i64 e.f4, .slice A e.f5.length c], .agg #[.int .i64 e.f0, .int .i64 n, .int .i64 n, .int .i64 e.f2, .string (bs nm), .int .i64 e.f4, .slice Av kd.length cv]] w (fun r w' => r = .returned (.bool true) ∧ Below w.heap.size w w') from by have h2 := sameE_calls e ⟨e.f0, ⟨n, n⟩, e.f2, bs nm, e.f4, kd⟩ w _ _ (k31.K_below (h.old 3 rfl) HEE.out) (k31_mk w ⟨e.f0, ⟨n, n⟩, e.f2, bs nm, e.f4, kd⟩ HCV.out (h.C 1 rfl)); rw [HSH.out] at h2; exact h2)
  have HK2 := Aside0.mk (fun (w : World) (h : Sat W w ([blk g7 31 #[.int .i64 e.f0, .int .i64 n, .int .i64 n, .int .i64 e.f2, .string (bs nm), .int .i64 e.f4, .slice Av kd.length cv], row k31 31 (.slice Av kd.length cv) kd, blk g3 31 #[.int .i64 e.f0, .int .i64 e.f1.f0, .int .i64 e.f1.f1, .int .i64 e.f2, .string (bs nm), .int .i64 e.f4, .slice A e.f5.length c], old W])) => show Calls Tryd.prog 11 #[.agg #[.int .i64 e.f0, .int .i64 n, .int .i64 n, .int .i64 e.f2, .string (bs nm), .int .i64 e.f4, .slice Av kd.length cv], .agg #[.int .i64 e.f0, .int .i64 e.f1.f0, .int .i64 e.f1.f1, .int .i64 e.f2, .string (bs nm), .int .i64 e.f4, .slice A e.f5.length c]] w (fun r w' => r = .returned (.bool true) ∧ Below w.heap.size w w') from by have h2 := sameE_calls ⟨e.f0, ⟨n, n⟩, e.f2, bs nm, e.f4, kd⟩ e w _ _ (k31_mk w ⟨e.f0, ⟨n, n⟩, e.f2, bs nm, e.f4, kd⟩ HCV.out (h.C 1 rfl)) (k31.K_below (h.old 3 rfl) HEE.out); rw [sameE_comm, HSH.out] at h2; exact h2)
  change Sat W w [blk g7 31 #[.int .i64 e.f0, .int .i64 n, .int .i64 n, .int .i64 e.f2, .string (bs nm), .int .i64 e.f4, .slice Av kd.length cv], row k31 31 (.slice Av kd.length cv) kd, blk g3 31 #[.int .i64 e.f0, .int .i64 e.f1.f0, .int .i64 e.f1.f1, .int .i64 e.f2, .string (bs nm), .int .i64 e.f4, .slice A e.f5.length c], old W] at HS
  go_upto_region 8 with (first | ((with_reducible refine gate_dst (N := 20) rfl ?_); ((with_reducible refine gate_load (ty := 31) (p := 3) rfl ?_); go_must (refine ev_load HS 2 rfl rfl 31 (.tmp 3) rfl (N := 20) rfl rfl _ Tryd.underlying31 rfl (by kernel_rfl) ?_))) | ((with_reducible refine gate_dst (N := 21) rfl ?_); ((with_reducible refine gate_load (ty := 31) (p := 7) rfl ?_); go_must (refine ev_load HS 0 rfl rfl 31 (.tmp 7) rfl (N := 21) rfl rfl _ Tryd.underlying31 rfl (by kernel_rfl) ?_))) | ((try (refine gate_guard (by rfl) ?_; dsimp only)); go_at_call 11; (with_reducible refine (HK1.out _ HS).mono ?_); rintro r w_ ⟨rfl, hb⟩; replace HS := HS.below hb; clear hb) | ((with_reducible refine gate_dst (N := 25) rfl ?_); ((with_reducible refine gate_load (ty := 31) (p := 7) rfl ?_); (refine gate_guard (by rfl) ?_); dsimp only; go_must (refine ev_load HS 0 rfl rfl 31 (.tmp 7) rfl (N := 25) rfl rfl _ Tryd.underlying31 rfl (by kernel_rfl) ?_))) | ((with_reducible refine gate_dst (N := 26) rfl ?_); ((with_reducible refine gate_load (ty := 31) (p := 3) rfl ?_); (refine gate_guard (by rfl) ?_); dsimp only; go_must (refine ev_load HS 2 rfl rfl 31 (.tmp 3) rfl (N := 26) rfl rfl _ Tryd.underlying31 rfl (by kernel_rfl) ?_))) | ((try (refine gate_guard (by rfl) ?_; dsimp only)); go_at_call 11; (with_reducible refine (HK2.out _ HS).mono ?_); rintro r w_ ⟨rfl, hb⟩; replace HS := HS.below hb; clear hb))
  clear HK1 HK2
  have c7 := HS.cell 0 rfl
  have z0 : kd.length = 0 := by rw [HKL.out]; exact hk0.out
  rw [z0] at c7
  go_wp2
  go_ret
  exact ⟨rfl, HS.old 3 rfl⟩
end Go.Proofs.YtaammdmaldodaaaDoor.B
