/- AstProgs: any program as text. -/
import Derived.Test.YtaammdmaldodaaaDoorAstProgF
import Derived.Test.YtaammdmaldodaaaDoorAstProgT
import Derived.Test.YtaammdmaldodaaaDoorAstSts
namespace Go.Proofs.YtaammdmaldodaaaDoor.B
open Go.RowKit Go.Proofs.YtaammdmaldodaaaDoor.Mine Go.Proofs.YtaammdmaldodaaaDoor.Sep Go.Proofs.YtaammdmaldodaaaDoorW.PrintWords Go.Proofs.YtaammdmaldodaaaDoorW.PrintLast Go.Proofs.YtaammdmaldodaaaDoorW.PrintMore
set_option linter.unusedVariables false
set_option linter.unusedSimpArgs false
set_option maxRecDepth 100000 in
set_option maxHeartbeats 8000000 in
theorem progs_few (gs : List S54) (fs : List S41) (A0 A1 : Option Addr) (c0 c1 : Nat) (W : World) (hG : GL W)
    (HFW : Aside0 (∀ w : World, Below W.heap.size W w → Calls Tryd.prog 18 #[.agg #[.slice A0 gs.length c0, .slice A1 fs.length c1]] w fun r w' => r = .returned (.bool false) ∧ Below w.heap.size w w')) :
    Calls Tryd.prog 6 #[.agg #[.slice A0 gs.length c0, .slice A1 fs.length c1]] W fun e W' => e = .returned (.bool true) ∧ Below W.heap.size W W' := by
  have HS := Sat.start W
  have HG := Aside0.mk hG
  clear hG
  go_enter Tryd.func6, Tryd.ntmps6
  go_upto_region 1 with ((with_reducible refine gate_dst (N := 1) rfl ?_); go_must (refine ev_box HS rfl (N := 1) rfl (cs := #[.slice A0 gs.length c0, .slice A1 fs.length c1]) (t := 45) ?hrun ?_); (case hrun => first | (go_simp; done) | (go_simp; rfl)); clear HS; intro gp w HS)
  go_upto_region 3 with (go_at_call 7; refine (head_calls (fun w h => HG.out.below (h.old 1 rfl)) HS).mono ?_; rintro e w_ ⟨rfl, HS_⟩; clear HS; have HS := HS_; clear HS_)
  go_wp2_with (first | ((with_reducible refine gate_dst (N := 12) rfl ?_); ((with_reducible refine gate_load (ty := 45) (p := 1) rfl ?_); go_must (refine ev_load HS 0 rfl rfl 45 (.tmp 1) rfl (N := 12) rfl rfl _ Tryd.underlying45 rfl (by kernel_rfl) ?_))) | (go_at_call 18; refine (HFW.out _ (HS.old 1 rfl)).mono ?_; rintro r w_ ⟨rfl, hb⟩; replace HS := HS.below hb; clear hb))
  go_ret
  exact ⟨rfl, HS.old 1 rfl⟩
set_option maxRecDepth 100000 in
set_option maxHeartbeats 8000000 in
theorem progs_in (gs : List S54) (fs : List S41) (A0 A1 : Option Addr) (c0 c1 : Nat) (W : World) (hG : GL W) (hOK : PrOk gs fs) (hC0 : Kd.C k54 W A0 gs.length gs) (hC1 : Kd.C k41 W A1 fs.length fs)
    (HFW : Aside0 (∀ w : World, Below W.heap.size W w → Calls Tryd.prog 18 #[.agg #[.slice A0 gs.length c0, .slice A1 fs.length c1]] w fun r w' => r = .returned (.bool true) ∧ Below w.heap.size w w')) :
    Calls Tryd.prog 6 #[.agg #[.slice A0 gs.length c0, .slice A1 fs.length c1]] W fun e W' => e = .returned (.bool true) ∧ Below W.heap.size W W' := by
  have HS := Sat.start W
  have HPT := Aside0.mk (fun (w : World) (hb : Below W.heap.size W w) => ptext_calls gs fs A0 A1 c0 c1 w (hG.below hb) hOK (Kd.C_below hC0 hb) (Kd.C_below hC1 hb))
  have HG := Aside0.mk hG
  have HOK := Aside0.mk hOK
  have HC0 := Aside0.mk hC0
  have HC1 := Aside0.mk hC1
  have HN0 := Aside0.mk (show gs.length ≤ 9223372036854775807 from hC0.2.1)
  have HN1 := Aside0.mk (show fs.length ≤ 9223372036854775807 from hC1.2.1)
  have hgl : (gsT gs).length ≤ BX := by have := hOK.len; unfold progT at this; rw [List.length_append] at this; omega
  have HGL := Aside0.mk hgl
  clear hG hOK hC0 hC1 hgl
  go_enter Tryd.func6, Tryd.ntmps6
  go_upto_region 1 with ((with_reducible refine gate_dst (N := 1) rfl ?_); go_must (refine ev_box HS rfl (N := 1) rfl (cs := #[.slice A0 gs.length c0, .slice A1 fs.length c1]) (t := 45) ?hrun ?_); (case hrun => first | (go_simp; done) | (go_simp; rfl)); clear HS; intro gp w HS)
  go_upto_region 3 with (go_at_call 7; refine (head_calls (fun w h => HG.out.below (h.old 1 rfl)) HS).mono ?_; rintro e w_ ⟨rfl, HS_⟩; clear HS; have HS := HS_; clear HS_)
  go_upto_region 5 with (first | ((with_reducible refine gate_dst (N := 12) rfl ?_); ((with_reducible refine gate_load (ty := 45) (p := 1) rfl ?_); go_must (refine ev_load HS 0 rfl rfl 45 (.tmp 1) rfl (N := 12) rfl rfl _ Tryd.underlying45 rfl (by kernel_rfl) ?_))) | (go_at_call 18; refine (HFW.out _ (HS.old 1 rfl)).mono ?_; rintro r w_ ⟨rfl, hb⟩; replace HS := HS.below hb; clear hb))
  have cb := HS.cell 0 rfl
  go_wp2
  go_loopg [3, 18] (gs.length + 1) (fun kq v3 v18 w' => ∃ (i : Nat), v3 = .string (bs (gsT (gs.take i))) ∧ v18 = .int .i64 (i : Int) ∧ Aside0 (i ≤ gs.length ∧ gs.length + 1 ≤ kq + i) ∧ Aside0 (Sat W w' [blk gp 45 #[.slice A0 gs.length c0, .slice A1 fs.length c1], old W]))
  case atStart => exact ⟨0, rfl, rfl, ⟨by omega, by omega⟩, ⟨HS⟩⟩
  case round =>
    clear HS cb
    obtain ⟨i, rfl, rfl, HI, HS'⟩ := hrel
    have HS := HS'.out
    clear HS'
    cases gk with
    | zero => have := HI.out; omega
    | succ k1 =>
      obtain ⟨R, hR⟩ : ∃ R, R = gsT (gs.take i) := ⟨_, rfl⟩
      rw [← hR]
      by_cases hk : i < gs.length
      · obtain ⟨I, hI_⟩ : ∃ I : Int, (i : Int) = I := ⟨_, rfl⟩
        have pI : 0 ≤ I := by omega
        have q1 : I < (gs.length : Int) := by omega
        have c1_ : decide (I < (gs.length : Int)) = true := decide_eq_true q1
        have hbw := HS.old 1 rfl
        obtain ⟨ad, rfl, x0, x1, x2, x3, x4⟩ := at_T54 HC0.out I pI q1
        replace x0 := cell_below x0 hbw
        replace x1 := cell_below x1 hbw
        replace x2 := cell_below x2 hbw
        replace x3 := cell_below x3 hbw
        replace x4 := cell_below x4 hbw
        clear hbw
        have hq : rd_T54 gs I = gs[i] := by rw [← hI_]; exact rdG hk
        obtain ⟨q, hqq⟩ : ∃ z_, z_ = rd_T54 gs I := ⟨_, rfl⟩
        rw [← hqq] at x0 x1 x2 x3 x4 hq
        have hmem : q ∈ gs := by rw [hq]; exact List.getElem_mem hk
        obtain ⟨nm, hnm⟩ : ∃ nm, q.f0 = bs nm := ⟨q.f0.data.toList, rfl⟩
        rw [hnm] at x0
        have hQ : gsT (gs.take (i + 1)) = R ++ (holdT q.f1 ++ nm ++ (if 0 < q.f2 then [91] ++ Lib.itoa q.f2 ++ [93] else []) ++ [59, 10]) := by rw [gs_take hk, hR, ← hq]; unfold gT; rw [hnm]; rfl
        have hlen := gs_take_le gs (i + 1)
        rw [hQ] at hlen
        have hg2 := (HOK.out.gok q hmem).2
        have hln : R.length ≤ BX ∧ nm.length ≤ BX := by
          have := HGL.out
          simp only [List.length_append, List.length_cons, List.length_nil] at hlen ⊢
          omega
        have hRl := hln.1
        have hnl := hln.2
        have hitl := itoa_len hg2
        have HIT := Aside0.mk (itoa_at q.f2 hg2.1 hg2.2)
        have hit2 : (Lib.itoa q.f2).length ≤ 100 := by omega
        have HQ := Aside0.mk hQ
        have hwi : wrap64 (I + 1) = I + 1 := w64 _ (by omega) (by have := HN0.out; omega)
        have HII := Aside0.mk (show (i : Int) = I ∧ i < gs.length from ⟨hI_, hk⟩)
        rw [hI_]
        clear hq hqq hmem hnm hQ hlen hln hI_ hk hR hg2 hitl
        have r1 := eq_true pI
        have r2 := eq_true q1
        go_upto_region 10 with (first | ((with_reducible refine gate_dst (N := 5) rfl ?_); go_must (refine ev_box HS rfl (N := 5) rfl (cs := #[.string ⟨#[]⟩, .int .i64 0, .int .i64 0, .int .i64 0, .int .i64 0]) (t := 54) ?hrun ?_); (case hrun => first | (go_simp; done) | (go_simp; rfl)); clear HS; intro gq w HS) | ((with_reducible refine gate_store (t := 54) (p := 5) rfl ?_); go_must (refine ev_store HS 0 rfl rfl 54 (.tmp 5) (.tmp 21) rfl rfl rfl [.string (bs nm), .int .i64 q.f1, .int .i64 q.f2, .int .i64 q.f3.f0, .int .i64 q.f3.f1] ?hx (by kernel_rfl) (by rfl) ?h1 ?_); (case hx => first | rfl | (go_simp; done)); (case h1 => simp [Value.oneCell']); clear HS; intro w HS))
        clear x0 x1 x2 x3 x4 r1 r2 pI q1
        replace HS : Sat W _ [blk gq 54 #[.string (bs nm), .int .i64 q.f1, .int .i64 q.f2, .int .i64 q.f3.f0, .int .i64 q.f3.f1], blk gp 45 _, old W] := HS
        obtain ⟨IT, hIT⟩ : ∃ t, t = Lib.itoa q.f2 := ⟨_, rfl⟩
        rw [← hIT] at HIT hit2 HQ
        clear hIT
        have cb := HS.cell 0 rfl
        by_cases hh : q.f1 ≤ 0
        · have b0 : decide (q.f1 ≤ 0) = true := decide_eq_true hh
          have HHD := Aside0.mk (show holdT q.f1 = [118, 97, 114, 32] by unfold holdT; rw [if_pos hh])
          clear hh
          by_cases hz : 0 < q.f2
          · have z1 : decide (0 < q.f2) = true := decide_eq_true hz
            rw [if_pos hz] at HQ
            clear hz
            go_wp2_with (first | (go_at_call 19; refine (HIT.out _ (HG.out.below (HS.old 2 rfl)).pow).mono ?_; rintro e w_ ⟨rfl, hb⟩; replace HS := HS.below hb; clear hb) | ((with_reducible refine gate_bin (b := .add) (t := 9) (t' := 9) rfl ?_); go_must (refine ev_cat Tryd.underlying9 rfl rfl rfl rfl rfl (by (try simp only [List.length_append, List.length_cons, List.length_nil]); have := bx_le; omega) ?_)))
            go_roundg k1
            case measure => exact Nat.lt_succ_self _
            case rel =>
              have h1 := HII.out
              have h2 := HI.out
              refine ⟨i + 1, ?_, by rw [hwi, ← h1.1]; rfl, ⟨by omega, by omega⟩, ⟨HS.tail⟩⟩
              rw [HQ.out, HHD.out]
              simp
          · have z1 : decide (0 < q.f2) = false := decide_eq_false hz
            rw [if_neg hz] at HQ
            clear hz
            go_wp2_with (first | (go_at_call 19; refine (HIT.out _ (HG.out.below (HS.old 2 rfl)).pow).mono ?_; rintro e w_ ⟨rfl, hb⟩; replace HS := HS.below hb; clear hb) | ((with_reducible refine gate_bin (b := .add) (t := 9) (t' := 9) rfl ?_); go_must (refine ev_cat Tryd.underlying9 rfl rfl rfl rfl rfl (by (try simp only [List.length_append, List.length_cons, List.length_nil]); have := bx_le; omega) ?_)))
            go_roundg k1
            case measure => exact Nat.lt_succ_self _
            case rel =>
              have h1 := HII.out
              have h2 := HI.out
              refine ⟨i + 1, ?_, by rw [hwi, ← h1.1]; rfl, ⟨by omega, by omega⟩, ⟨HS.tail⟩⟩
              rw [HQ.out, HHD.out]
              simp
        · have b0 : decide (q.f1 ≤ 0) = false := decide_eq_false hh
          by_cases hh1 : q.f1 = 1
          · have b1 : (q.f1 == 1) = true := beq_iff_eq.2 hh1
            have HHD := Aside0.mk (show holdT q.f1 = [112, 117, 98, 108, 105, 99, 32] by unfold holdT; rw [if_neg hh, if_pos hh1])
            clear hh hh1
            by_cases hz : 0 < q.f2
            · have z1 : decide (0 < q.f2) = true := decide_eq_true hz
              rw [if_pos hz] at HQ
              clear hz
              go_wp2_with (first | (go_at_call 19; refine (HIT.out _ (HG.out.below (HS.old 2 rfl)).pow).mono ?_; rintro e w_ ⟨rfl, hb⟩; replace HS := HS.below hb; clear hb) | ((with_reducible refine gate_bin (b := .add) (t := 9) (t' := 9) rfl ?_); go_must (refine ev_cat Tryd.underlying9 rfl rfl rfl rfl rfl (by (try simp only [List.length_append, List.length_cons, List.length_nil]); have := bx_le; omega) ?_)))
              go_roundg k1
              case measure => exact Nat.lt_succ_self _
              case rel =>
                have h1 := HII.out
                have h2 := HI.out
                refine ⟨i + 1, ?_, by rw [hwi, ← h1.1]; rfl, ⟨by omega, by omega⟩, ⟨HS.tail⟩⟩
                rw [HQ.out, HHD.out]
                simp
            · have z1 : decide (0 < q.f2) = false := decide_eq_false hz
              rw [if_neg hz] at HQ
              clear hz
              go_wp2_with (first | (go_at_call 19; refine (HIT.out _ (HG.out.below (HS.old 2 rfl)).pow).mono ?_; rintro e w_ ⟨rfl, hb⟩; replace HS := HS.below hb; clear hb) | ((with_reducible refine gate_bin (b := .add) (t := 9) (t' := 9) rfl ?_); go_must (refine ev_cat Tryd.underlying9 rfl rfl rfl rfl rfl (by (try simp only [List.length_append, List.length_cons, List.length_nil]); have := bx_le; omega) ?_)))
              go_roundg k1
              case measure => exact Nat.lt_succ_self _
              case rel =>
                have h1 := HII.out
                have h2 := HI.out
                refine ⟨i + 1, ?_, by rw [hwi, ← h1.1]; rfl, ⟨by omega, by omega⟩, ⟨HS.tail⟩⟩
                rw [HQ.out, HHD.out]
                simp
          · have b1 : (q.f1 == 1) = false := beq_eq_false_iff_ne.2 hh1
            have HHD := Aside0.mk (show holdT q.f1 = [115, 101, 99, 114, 101, 116, 32] by unfold holdT; rw [if_neg hh, if_neg hh1])
            clear hh hh1
            by_cases hz : 0 < q.f2
            · have z1 : decide (0 < q.f2) = true := decide_eq_true hz
              rw [if_pos hz] at HQ
              clear hz
              go_wp2_with (first | (go_at_call 19; refine (HIT.out _ (HG.out.below (HS.old 2 rfl)).pow).mono ?_; rintro e w_ ⟨rfl, hb⟩; replace HS := HS.below hb; clear hb) | ((with_reducible refine gate_bin (b := .add) (t := 9) (t' := 9) rfl ?_); go_must (refine ev_cat Tryd.underlying9 rfl rfl rfl rfl rfl (by (try simp only [List.length_append, List.length_cons, List.length_nil]); have := bx_le; omega) ?_)))
              go_roundg k1
              case measure => exact Nat.lt_succ_self _
              case rel =>
                have h1 := HII.out
                have h2 := HI.out
                refine ⟨i + 1, ?_, by rw [hwi, ← h1.1]; rfl, ⟨by omega, by omega⟩, ⟨HS.tail⟩⟩
                rw [HQ.out, HHD.out]
                simp
            · have z1 : decide (0 < q.f2) = false := decide_eq_false hz
              rw [if_neg hz] at HQ
              clear hz
              go_wp2_with (first | (go_at_call 19; refine (HIT.out _ (HG.out.below (HS.old 2 rfl)).pow).mono ?_; rintro e w_ ⟨rfl, hb⟩; replace HS := HS.below hb; clear hb) | ((with_reducible refine gate_bin (b := .add) (t := 9) (t' := 9) rfl ?_); go_must (refine ev_cat Tryd.underlying9 rfl rfl rfl rfl rfl (by (try simp only [List.length_append, List.length_cons, List.length_nil]); have := bx_le; omega) ?_)))
              go_roundg k1
              case measure => exact Nat.lt_succ_self _
              case rel =>
                have h1 := HII.out
                have h2 := HI.out
                refine ⟨i + 1, ?_, by rw [hwi, ← h1.1]; rfl, ⟨by omega, by omega⟩, ⟨HS.tail⟩⟩
                rw [HQ.out, HHD.out]
                simp
      · have hkk : i = gs.length := by have := HI.out.1; omega
        subst hkk
        have hkb : decide (gs.length < gs.length) = false := decide_eq_false (Nat.lt_irrefl _)
        have hkb2 : decide ((gs.length : Int) < (gs.length : Int)) = false := decide_eq_false (by omega)
        rw [List.take_length] at hR
        have HRR := Aside0.mk hR
        clear hR hk HI
        have cb := HS.cell 0 rfl
        go_wp2
        go_loopg [3, 56] (fs.length + 1) (fun kq v3 v56 w' => ∃ (i : Nat), v3 = .string (bs (R ++ fsT (fs.take i))) ∧ v56 = .int .i64 (i : Int) ∧ Aside0 (i ≤ fs.length ∧ fs.length + 1 ≤ kq + i) ∧ Aside0 (Sat W w' [blk gp 45 #[.slice A0 gs.length c0, .slice A1 fs.length c1], old W]))
        case atStart => exact ⟨0, by rw [List.take_zero]; unfold fsT; rw [List.map_nil, List.flatten_nil, List.append_nil], rfl, ⟨by omega, by omega⟩, ⟨HS⟩⟩
        case round =>
          clear HS cb hkb hkb2
          obtain ⟨i, rfl, rfl, HI, HS'⟩ := hrel
          have HS := HS'.out
          clear HS'
          cases gk with
          | zero => have := HI.out; omega
          | succ k2 =>
            obtain ⟨R2, hR2⟩ : ∃ z_, z_ = R ++ fsT (fs.take i) := ⟨_, rfl⟩
            rw [← hR2]
            by_cases hk : i < fs.length
            · obtain ⟨I, hI_⟩ : ∃ I : Int, (i : Int) = I := ⟨_, rfl⟩
              have pI : 0 ≤ I := by omega
              have q1 : I < (fs.length : Int) := by omega
              have c1_ : decide (I < (fs.length : Int)) = true := decide_eq_true q1
              have hbw := HS.old 1 rfl
              obtain ⟨ad, B1, d1, B2, d2, rfl, x0, x1, x2, x3, x4, l1, g1, l2, g2⟩ := at_T41 HC1.out I pI q1
              replace x0 := cell_below x0 hbw
              replace x1 := cell_below x1 hbw
              replace x2 := cell_below x2 hbw
              replace x3 := cell_below x3 hbw
              replace x4 := cell_below x4 hbw
              clear hbw
              have hq : rd_T41 fs I = fs[i] := by rw [← hI_]; exact rdF hk
              obtain ⟨q, hqq⟩ : ∃ z_, z_ = rd_T41 fs I := ⟨_, rfl⟩
              rw [← hqq] at x0 x1 x2 x3 x4 hq l1 g1 l2 g2
              have hmem : q ∈ fs := by rw [hq]; exact List.getElem_mem hk
              obtain ⟨nm, hnm⟩ : ∃ nm, q.f0 = bs nm := ⟨q.f0.data.toList, rfl⟩
              rw [hnm] at x0
              have hQ : R ++ fsT (fs.take (i + 1)) = R2 ++ ([102, 117, 110, 99, 32] ++ nm ++ [40] ++ Lib.join (q.f1.map (·.data.toList)) [44, 32] ++ [41, 32, 123, 10] ++ txtSs 1 q.f2 ++ [125, 10]) := by rw [fs_take hk, hR2, ← hq]; unfold fT; rw [hnm, ← List.append_assoc]; rfl
              have hlen := fs_take_le fs (i + 1)
              have htot := HOK.out.len
              unfold progT at htot
              rw [← HRR.out] at htot
              have hl2 := congrArg List.length hQ
              rw [List.length_append] at hl2 htot
              obtain ⟨hok2, hro2, h10⟩ := HOK.out.fok q hmem
              obtain ⟨TS_, hTS⟩ : ∃ t, t = q.f1.map (·.data.toList) := ⟨_, rfl⟩
              obtain ⟨BT, hBT⟩ : ∃ t, t = txtSs 1 q.f2 := ⟨_, rfl⟩
              rw [← hTS, ← hBT] at hQ hl2
              have hln : R2.length + ([102, 117, 110, 99, 32] ++ nm ++ [40] ++ Lib.join TS_ [44, 32] ++ [41, 32, 123, 10] ++ BT ++ [125, 10]).length ≤ 140737488355328 := by
                have := bx_le
                rw [List.length_append] at hl2
                omega
              have hjl : (Lib.join TS_ [44, 32]).length ≤ BX := by have : BX = 140737488355328 := rfl; simp only [List.length_append, List.length_cons, List.length_nil] at hln; omega
              have hbl : BT.length ≤ BX := by have : BX = 140737488355328 := rfl; simp only [List.length_append, List.length_cons, List.length_nil] at hln; omega
              have hnl : nm.length ≤ BX := by have : BX = 140737488355328 := rfl; simp only [List.length_append, List.length_cons, List.length_nil] at hln; omega
              have hrl : R2.length ≤ BX := by have : BX = 140737488355328 := rfl; omega
              have HL := Aside0.mk (fun (w : World) (hb : Below W.heap.size W w) => sts_calls q.f2 w 1 B2 d2 (HG.out.below hb) hok2 hro2 (by rw [← hBT]; exact hbl) (Kd.C_below g2 hb) l2)
              rw [← hBT] at HL
              have HQ := Aside0.mk hQ
              have hwi : wrap64 (I + 1) = I + 1 := w64 _ (by omega) (by have := HN1.out; omega)
              have HWI := Aside0.mk hwi
              have HII := Aside0.mk (show (i : Int) = I ∧ i < fs.length from ⟨hI_, hk⟩)
              have hql1 : q.f1.length ≤ 9223372036854775807 := g1.2.1
              have hql2 : q.f2.length ≤ 9223372036854775807 := g2.2.1
              have HG1 := Aside0.mk g1
              have HTS := Aside0.mk hTS
              have H10 := Aside0.mk h10
              have hjx : ∀ j, (Lib.join (TS_.take j) [44, 32]).length ≤ (Lib.join TS_ [44, 32]).length := by
                intro j
                cases TS_ with
                | nil => simp
                | cons x r =>
                  cases j with
                  | zero => rw [List.take_zero, join_nil]; simp
                  | succ j =>
                    rw [List.take_succ_cons, Lib.join_cons, Lib.join_cons, List.length_append, List.length_append]
                    have := Lib.joinTail_take_le [44, 32] r j
                    omega
              have HJX := Aside0.mk hjx
              rw [hI_]
              clear hq hqq hmem hnm hQ hlen htot hl2 hok2 hro2 h10 hTS hBT hI_ hk hR2 g1 g2 l1 l2 hln hjx hwi
              have r1 := eq_true pI
              have r2 := eq_true q1
              go_upto_region 22 with (first | ((with_reducible refine gate_dst (N := 7) rfl ?_); go_must (refine ev_box HS rfl (N := 7) rfl (cs := #[.string ⟨#[]⟩, .slice none 0 0, .slice none 0 0, .int .i64 0, .int .i64 0]) (t := 41) ?hrun ?_); (case hrun => first | (go_simp; done) | (go_simp; rfl)); clear HS; intro gq w HS) | ((with_reducible refine gate_store (t := 41) (p := 7) rfl ?_); go_must (refine ev_store HS 0 rfl rfl 41 (.tmp 7) (.tmp 59) rfl rfl rfl [.string (bs nm), .slice B1 q.f1.length d1, .slice B2 q.f2.length d2, .int .i64 q.f3.f0, .int .i64 q.f3.f1] ?hx (by kernel_rfl) (by rfl) ?h1 ?_); (case hx => first | rfl | (go_simp; done)); (case h1 => simp [Value.oneCell']); clear HS; intro w HS))
              clear x0 x1 x2 x3 x4 r1 r2 pI q1
              replace HS : Sat W _ [blk gq 41 #[.string (bs nm), .slice B1 q.f1.length d1, .slice B2 q.f2.length d2, .int .i64 q.f3.f0, .int .i64 q.f3.f1], blk gp 45 _, old W] := HS
              have cb := HS.cell 0 rfl
              go_upto_region 23 with ((with_reducible refine gate_bin (b := .add) (t := 9) (t' := 9) rfl ?_); go_must (refine ev_cat Tryd.underlying9 rfl rfl rfl rfl rfl (by (try simp only [List.length_append, List.length_cons, List.length_nil]); have := bx_le; omega) ?_))
              go_wp2
              have e0 : R2 ++ [102, 117, 110, 99, 32] ++ nm ++ [40] = R2 ++ [102, 117, 110, 99, 32] ++ nm ++ [40] ++ Lib.join (TS_.take 0) [44, 32] := by rw [List.take_zero, join_nil, List.append_nil]
              go_loopg [3, 69] (q.f1.length + 1) (fun kq v3 v69 w' => ∃ (j : Nat), v3 = .string (bs (R2 ++ [102, 117, 110, 99, 32] ++ nm ++ [40] ++ Lib.join (TS_.take j) [44, 32])) ∧ v69 = .int .i64 (j : Int) ∧ Aside0 (j ≤ q.f1.length ∧ q.f1.length + 1 ≤ kq + j) ∧ Aside0 (Sat W w' [blk gq 41 #[.string (bs nm), .slice B1 q.f1.length d1, .slice B2 q.f2.length d2, .int .i64 q.f3.f0, .int .i64 q.f3.f1], blk gp 45 _, old W]))
              case atStart => exact ⟨0, by simp [join_nil], rfl, ⟨by omega, by omega⟩, ⟨HS⟩⟩
              case round =>
                clear HS cb e0
                obtain ⟨j, rfl, rfl, HJ, HS'⟩ := hrel
                have HS := HS'.out
                clear HS'
                cases gk with
                | zero => have := HJ.out; omega
                | succ k3 =>
                  obtain ⟨R3, hR3⟩ : ∃ z_, z_ = R2 ++ [102, 117, 110, 99, 32] ++ nm ++ [40] ++ Lib.join (TS_.take j) [44, 32] := ⟨_, rfl⟩
                  rw [← hR3]
                  have hr3 : R3.length ≤ 3 * BX + 10 := by
                    have h1 := HJX.out j
                    rw [hR3]
                    simp only [List.length_append, List.length_cons, List.length_nil]
                    omega
                  by_cases hj : j < q.f1.length
                  · obtain ⟨J, hJ_⟩ : ∃ J : Int, (j : Int) = J := ⟨_, rfl⟩
                    have pJ : 0 ≤ J := by omega
                    have qJ : J < (q.f1.length : Int) := by omega
                    have c2_ : decide (J < (q.f1.length : Int)) = true := decide_eq_true qJ
                    obtain ⟨adp, e1_, y0⟩ := Kd.at_string HG1.out J pJ qJ
                    subst e1_
                    replace y0 := cell_below y0 (HS.old 2 rfl)
                    have hjn : rdOf ByteArray.empty q.f1 J = q.f1[j] := by rw [← hJ_]; unfold rdOf; rw [Int.toNat_natCast, List.getD_eq_getElem?_getD, List.getElem?_eq_getElem hj]; rfl
                    obtain ⟨pn, hpn⟩ : ∃ pn, q.f1[j] = bs pn := ⟨q.f1[j].data.toList, rfl⟩
                    rw [hjn, hpn] at y0
                    have hl_ : TS_.length = q.f1.length := by rw [HTS.out, List.length_map]
                    have hN : R2 ++ [102, 117, 110, 99, 32] ++ nm ++ [40] ++ Lib.join (TS_.take (j + 1)) [44, 32] = (if j = 0 then R3 else R3 ++ [44, 32]) ++ pn := by
                      have h2 : j < TS_.length := by omega
                      have h3 : TS_[j] = pn := by
                        have : TS_[j]? = some pn := by rw [HTS.out, List.getElem?_map, List.getElem?_eq_getElem hj, hpn]; rfl
                        rw [List.getElem?_eq_getElem h2] at this
                        exact Option.some.inj this
                      rw [List.take_succ_eq_append_getElem h2, join_snoc, h3, hR3]
                      by_cases hi0 : j = 0
                      · subst hi0; simp [join_nil]
                      · rw [if_neg hi0, if_neg (by intro hn; have := congrArg List.length hn; rw [List.length_take, List.length_nil] at this; omega)]; simp
                    have hpl : pn.length ≤ 4 * BX + 20 := by
                      have h1 := HJX.out (j + 1)
                      have h2 := congrArg List.length hN
                      have h4 : pn.length ≤ ((if j = 0 then R3 else R3 ++ [44, 32]) ++ pn).length := by rw [List.length_append]; omega
                      rw [← h2] at h4
                      simp only [List.length_append, List.length_cons, List.length_nil] at h4
                      omega
                    have HN_ := Aside0.mk hN
                    have hwj : wrap64 (J + 1) = J + 1 := w64 _ (by omega) (by omega)
                    have HJJ := Aside0.mk (show (j : Int) = J ∧ j < q.f1.length from ⟨hJ_, hj⟩)
                    have hi1 : j = 0 → decide ((0 : Int) < J) = false := fun h => decide_eq_false (by omega)
                    have hi2 : ¬ j = 0 → decide ((0 : Int) < J) = true := fun h => decide_eq_true (by omega)
                    rw [hJ_]
                    clear hN hjn hpn hl_ hR3 hJ_ hj
                    have r1 := eq_true pJ
                    have r2 := eq_true qJ
                    by_cases hj0 : j = 0
                    · have hz := hi1 hj0
                      have HJ0 := Aside0.mk hj0
                      clear hi1 hi2 hj0
                      go_wp2_with ((with_reducible refine gate_bin (b := .add) (t := 9) (t' := 9) rfl ?_); go_must (refine ev_cat Tryd.underlying9 rfl rfl rfl rfl rfl (by (try simp only [List.length_append, List.length_cons, List.length_nil]); have := bx_le; omega) ?_))
                      go_roundg k3
                      case measure => exact Nat.lt_succ_self _
                      case rel =>
                        have h1 := HJJ.out
                        have h2 := HJ.out
                        refine ⟨j + 1, ?_, by first | (rw [hwj, ← h1.1]; rfl) | (rw [← h1.1]; rfl), ⟨by omega, by omega⟩, ⟨HS⟩⟩
                        rw [HN_.out, if_pos HJ0.out]
                    · have hz := hi2 hj0
                      have HJ0 := Aside0.mk hj0
                      clear hi1 hi2 hj0
                      go_wp2_with ((with_reducible refine gate_bin (b := .add) (t := 9) (t' := 9) rfl ?_); go_must (refine ev_cat Tryd.underlying9 rfl rfl rfl rfl rfl (by (try simp only [List.length_append, List.length_cons, List.length_nil]); have := bx_le; omega) ?_))
                      go_roundg k3
                      case measure => exact Nat.lt_succ_self _
                      case rel =>
                        have h1 := HJJ.out
                        have h2 := HJ.out
                        refine ⟨j + 1, ?_, by first | (rw [hwj, ← h1.1]; rfl) | (rw [← h1.1]; rfl), ⟨by omega, by omega⟩, ⟨HS⟩⟩
                        rw [HN_.out, if_neg HJ0.out]
                        simp
                  · have hjj : j = q.f1.length := by have := HJ.out.1; omega
                    subst hjj
                    have hkb : decide (q.f1.length < q.f1.length) = false := decide_eq_false (Nat.lt_irrefl _)
                    have hkb2 : decide ((q.f1.length : Int) < (q.f1.length : Int)) = false := decide_eq_false (by omega)
                    have hte : TS_.take q.f1.length = TS_ := List.take_of_length_le (by rw [HTS.out, List.length_map]; exact Nat.le_refl _)
                    rw [hte] at hR3
                    have HR3 := Aside0.mk hR3
                    clear hte hj hR3 HJ
                    have cb := HS.cell 0 rfl
                    have hwi := HWI.out
                    go_wp2_with (first | (go_at_call 20; refine (HL.out _ (HS.old 2 rfl)).mono ?_; rintro e w_ ⟨rfl, hb⟩; replace HS := HS.below hb; clear hb) | ((with_reducible refine gate_bin (b := .add) (t := 9) (t' := 9) rfl ?_); go_must (refine ev_cat Tryd.underlying9 rfl rfl rfl rfl rfl (by (try simp only [List.length_append, List.length_cons, List.length_nil]); have := bx_le; omega) ?_)))
                    go_roundg k2
                    case measure => exact Nat.lt_succ_self _
                    case rel =>
                      have h1 := HII.out
                      have h2 := HI.out
                      refine ⟨i + 1, ?_, by rw [hwi, ← h1.1]; rfl, ⟨by omega, by omega⟩, ⟨HS.tail⟩⟩
                      rw [HQ.out, HR3.out]
                      simp
            · have hkk : i = fs.length := by have := HI.out.1; omega
              subst hkk
              have hkb : decide (fs.length < fs.length) = false := decide_eq_false (Nat.lt_irrefl _)
              have hkb2 : decide ((fs.length : Int) < (fs.length : Int)) = false := decide_eq_false (by omega)
              rw [List.take_length] at hR2
              have hT : progT gs fs = R2 := by rw [hR2, HRR.out]; rfl
              rw [hT] at HPT
              have hbb : ((bs R2).toList == (bs R2).toList) = true := beq_self_eq_true _
              clear hR2 hk HI hT
              go_wp2_with (first | ((with_reducible refine gate_dst (N := 90) rfl ?_); ((with_reducible refine gate_load (ty := 45) (p := 1) rfl ?_); go_must (refine ev_load HS 0 rfl rfl 45 (.tmp 1) rfl (N := 90) rfl rfl _ Tryd.underlying45 rfl (by kernel_rfl) ?_))) | (go_at_call 21; refine (HPT.out _ (HS.old 1 rfl)).mono ?_; rintro r w_ ⟨rfl, hb⟩; replace HS := HS.below hb; clear hb))
              go_ret
              exact ⟨rfl, HS.old 1 rfl⟩
theorem progs_walk {H : Type} {enc : TypeId × Value → H} {d : DataW H} {p : List MemPlace} (v0 : Value) (W : World) (h0 : Arg enc Tryd.prog W 45 v0 d p) (hk : Rows.uptoBulk d ≤ 1048576) (hL : laidMetH Tryd.prog astLaid W) :
    Calls Tryd.prog 6 #[v0] W fun e W' => e = .returned (.bool true) ∧ Below W.heap.size W W' := by
  have hG := of_laid hL
  obtain ⟨A0, d0, gs, A1, d1, fs, rfl, l0, l1, hC0, hC1, hg, hf, hb⟩ := open_progB h0
  have HFW : ∀ w : World, Below W.heap.size W w → Calls Tryd.prog 18 #[.agg #[.slice A0 gs.length d0, .slice A1 fs.length d1]] w fun r w' => r = .returned (.bool (fewP gs fs)) ∧ Below w.heap.size w w' :=
    fun w hb => palingslaw03_FewProg.calls 2500 A0 d0 gs A1 d1 fs _ w (Kd.C_below hC0 hb) l0 (Kd.C_below hC1 hb) l1 (fewp_f gs fs 2500 (Nat.le_refl _))
  cases hfp : fewP gs fs with
  | false => rw [hfp] at HFW; exact progs_few gs fs A0 A1 d0 d1 W hG ⟨HFW⟩
  | true => rw [hfp] at HFW; exact progs_in gs fs A0 A1 d0 d1 W hG (few_prok gs fs hfp hg hf (Nat.le_trans hb hk)) hC0 hC1 ⟨HFW⟩
end Go.Proofs.YtaammdmaldodaaaDoor.B
