/- MachTwo: two memories that differ where nothing reads: the same is seen: its walk. -/
import Derived.Test.YtigimkcppocodaaMachTwoP
namespace Go.Proofs.Ytigimkcppocodaa.B
open Go.RowKit Go.Proofs.Ytigimkcppocodaa.Mine Go.Proofs.Ytigimkcppocodaa.Sep Go.Proofs.YtigimkcppocodaaW.PrintWords Go.Proofs.YtigimkcppocodaaW.PrintLast Go.Proofs.YtigimkcppocodaaW.PrintMore
set_option linter.unusedVariables false
set_option linter.unusedSimpArgs false
section
variable {Ac : Option Addr} {cc : Nat} {code : List S58} {Aa : Option Addr} {ca : Nat} {arrs : List S64} {st mem : Int} {Ai : Option Addr} {ci : Nat} {ins : List (List Int)}
set_option maxRecDepth 100000 in
set_option maxHeartbeats 4000000 in
theorem two_few (a2 v : Int) (W : World) (hC : Kd.C k58 W Ac code.length code) (hcc : code.length ≤ cc) (hA : Kd.C k64 W Aa arrs.length arrs) (hca : arrs.length ≤ ca) (hI : Kd.C (Kd.slice 2 (Kd.int .i64)) W Ai ins.length ins) (hci : ins.length ≤ ci) (hf : palingslaw19_Few.f 500 code arrs st mem ins = some false) :
    Calls Try.prog 6 #[.agg #[.slice Ac code.length cc, .slice Aa arrs.length ca, .int .i64 st, .int .i64 mem], .slice Ai ins.length ci, .int .i64 a2, .int .i64 v] W fun e W' => e = .returned (.bool true) ∧ Below W.heap.size W W' := by
  have HS := Sat.start W
  have HF := Aside0.mk hf
  clear hf
  go_enter Try.func6, Try.ntmps6
  go_upto_region 1 with ((with_reducible refine gate_dst (N := 4) rfl ?_); go_must (refine ev_box HS rfl (N := 4) rfl (cs := #[.slice Ac code.length cc, .slice Aa arrs.length ca, .int .i64 st, .int .i64 mem]) (t := 25) ?hrun ?_); (case hrun => first | (go_simp; done) | (go_simp; rfl)); clear HS; intro gb w HS)
  go_upto_region 3 with (go_at_call 9; (with_reducible refine (head_calls HS).mono ?_); rintro e w_ ⟨rfl, HS_⟩; clear HS; have HS := HS_; clear HS_)
  have cb := HS.cell 0 rfl
  have hb0 := HS.old 1 rfl
  have HC := Aside0.mk (Kd.C_below hC hb0)
  have HA := Aside0.mk (Kd.C_below hA hb0)
  have HI := Aside0.mk (Kd.C_below hI hb0)
  clear hb0

  go_wp2_with (go_at_call 10; (with_reducible refine (palingslaw19_Few.calls 500 _ _ code _ _ arrs st mem _ _ ins false _ HC.out hcc HA.out hca HI.out hci HF.out).mono ?_); rintro e w2 ⟨rfl, hb⟩; replace HS := HS.below hb; clear hb; have cb := HS.cell 0 rfl)
  go_ret
  exact ⟨rfl, HS.old 1 rfl⟩
set_option maxRecDepth 100000 in
set_option maxHeartbeats 4000000 in
theorem two_zero (a2 v : Int) (W : World) (hC : Kd.C k58 W Ac code.length code) (hcc : code.length ≤ cc) (hA : Kd.C k64 W Aa arrs.length arrs) (hca : arrs.length ≤ ca) (hI : Kd.C (Kd.slice 2 (Kd.int .i64)) W Ai ins.length ins) (hci : ins.length ≤ ci) (hf : palingslaw19_Few.f 500 code arrs st mem ins = some true) (hm : mem = 0) :
    Calls Try.prog 6 #[.agg #[.slice Ac code.length cc, .slice Aa arrs.length ca, .int .i64 st, .int .i64 mem], .slice Ai ins.length ci, .int .i64 a2, .int .i64 v] W fun e W' => e = .returned (.bool true) ∧ Below W.heap.size W W' := by
  have HS := Sat.start W
  have HF := Aside0.mk hf
  clear hf
  have hmb : (mem == 0) = true := beq_iff_eq.mpr hm
  have HM0 := Aside0.mk hm
  clear hm
  go_enter Try.func6, Try.ntmps6
  go_upto_region 1 with ((with_reducible refine gate_dst (N := 4) rfl ?_); go_must (refine ev_box HS rfl (N := 4) rfl (cs := #[.slice Ac code.length cc, .slice Aa arrs.length ca, .int .i64 st, .int .i64 mem]) (t := 25) ?hrun ?_); (case hrun => first | (go_simp; done) | (go_simp; rfl)); clear HS; intro gb w HS)
  go_upto_region 3 with (go_at_call 9; (with_reducible refine (head_calls HS).mono ?_); rintro e w_ ⟨rfl, HS_⟩; clear HS; have HS := HS_; clear HS_)
  have cb := HS.cell 0 rfl
  have hb0 := HS.old 1 rfl
  have HC := Aside0.mk (Kd.C_below hC hb0)
  have HA := Aside0.mk (Kd.C_below hA hb0)
  have HI := Aside0.mk (Kd.C_below hI hb0)
  clear hb0

  go_wp2_with (go_at_call 10; (with_reducible refine (palingslaw19_Few.calls 500 _ _ code _ _ arrs st mem _ _ ins true _ HC.out hcc HA.out hca HI.out hci HF.out).mono ?_); rintro e w2 ⟨rfl, hb⟩; replace HS := HS.below hb; clear hb; have cb := HS.cell 0 rfl)
  go_ret
  exact ⟨rfl, HS.old 1 rfl⟩
set_option maxRecDepth 100000 in
set_option maxHeartbeats 4000000 in
theorem two_main (a2 v : Int) (W : World) (hC : Kd.C k58 W Ac code.length code) (hcc : code.length ≤ cc) (hA : Kd.C k64 W Aa arrs.length arrs) (hca : arrs.length ≤ ca) (hI : Kd.C (Kd.slice 2 (Kd.int .i64)) W Ai ins.length ins) (hci : ins.length ≤ ci) (hf : palingslaw19_Few.f 500 code arrs st mem ins = some true) (hF : Fews code arrs st mem ins) (hm : mem ≠ 0) :
    Calls Try.prog 6 #[.agg #[.slice Ac code.length cc, .slice Aa arrs.length ca, .int .i64 st, .int .i64 mem], .slice Ai ins.length ci, .int .i64 a2, .int .i64 v] W fun e W' => e = .returned (.bool true) ∧ Below W.heap.size W W' := by
  have HS := Sat.start W
  have HF := Aside0.mk hf
  clear hf
  have hmb : (mem == 0) = false := beq_eq_false_iff_ne.mpr hm
  obtain ⟨k, hr⟩ := hF.right
  have hR := right_true hr
  have hm0 := hF.m0
  have hm1 := hF.m1
  have hms0 := hR.s0
  have hms1 := hR.s1
  have hal : arrs.length ≤ 1000 := by have := hF.a; omega
  have hX0 : 0 ≤ Go.bits .and .i64 a2 65535 := by rw [and65535]; omega
  have hX1 : Go.bits .and .i64 a2 65535 ≤ 65535 := by rw [and65535]; omega
  clear hr
  go_enter Try.func6, Try.ntmps6
  go_upto_region 1 with ((with_reducible refine gate_dst (N := 4) rfl ?_); go_must (refine ev_box HS rfl (N := 4) rfl (cs := #[.slice Ac code.length cc, .slice Aa arrs.length ca, .int .i64 st, .int .i64 mem]) (t := 25) ?hrun ?_); (case hrun => first | (go_simp; done) | (go_simp; rfl)); clear HS; intro gb w HS)
  go_upto_region 3 with (go_at_call 9; (with_reducible refine (head_calls HS).mono ?_); rintro e w_ ⟨rfl, HS_⟩; clear HS; have HS := HS_; clear HS_)
  have cb := HS.cell 0 rfl
  have hb0 := HS.old 1 rfl
  have HC := Aside0.mk (Kd.C_below hC hb0)
  have HA := Aside0.mk (Kd.C_below hA hb0)
  have HI := Aside0.mk (Kd.C_below hI hb0)
  clear hb0

  go_upto_region 5 with (go_at_call 10; (with_reducible refine (palingslaw19_Few.calls 500 _ _ code _ _ arrs st mem _ _ ins true _ HC.out hcc HA.out hca HI.out hci HF.out).mono ?_); rintro e w2 ⟨rfl, hb⟩; replace HS := HS.below hb; clear hb; have cb := HS.cell 0 rfl)
  clear HC HA HI
  go_upto_region 6 with (fail)
  obtain ⟨x, hx⟩ : ∃ x, x = Go.bits .and .i64 a2 65535 % mem := ⟨_, rfl⟩
  rw [← hx]
  have hx0 : 0 ≤ x := by rw [hx]; exact Int.emod_nonneg _ hm
  have hx1 : x < mem := by rw [hx]; exact Int.emod_lt_of_pos _ (by omega)
  clear hx hX0 hX1
  have cb := HS.cell 0 rfl
  go_upto_region 7 with (first | (go_at_call 11; (with_reducible refine (begin_calls st mem HS).mono ?_); rintro e w_ ⟨rfl, HS_⟩; clear HS; have HS := HS_; clear HS_) | ((with_reducible refine gate_dst (N := 9) rfl ?_); go_must (refine ev_box HS rfl (N := 9) rfl (cs := (stL z0).toArray) (t := 32) ?hrun ?_); (case hrun => first | (go_simp; done) | (go_simp; rfl)); clear HS; intro g9 w HS) | ((with_reducible refine gate_store (t := 32) (p := 9) rfl ?_); go_must (refine ev_store HS 0 rfl rfl 32 (.tmp 9) (.tmp 35) rfl rfl rfl (stL (beginS st)) rfl (len32 (begin_len st)) (by simp [stL_length (begin_len st)]; rfl) (stL_one _) ?_); clear HS; intro w HS))
  go_upto_region 8 with (first | ((with_reducible refine gate_load (ty := 32) (p := 9) rfl ?_); go_must (refine ev_load HS 0 rfl rfl 32 (.tmp 9) rfl (N := 36) rfl rfl _ Try.underlying32 rfl (size32 (begin_len st)) ?_)) | ((with_reducible refine gate_dst (N := 10) rfl ?_); go_must (refine ev_box HS rfl (N := 10) rfl (cs := (stL z0).toArray) (t := 32) ?hrun ?_); (case hrun => first | (go_simp; done) | (go_simp; rfl)); clear HS; intro g10 w HS) | ((with_reducible refine gate_store (t := 32) (p := 10) rfl ?_); go_must (refine ev_store HS 0 rfl rfl 32 (.tmp 10) (.tmp 36) rfl rfl rfl (stL (beginS st)) rfl (len32 (begin_len st)) (by simp [stL_length (begin_len st)]; rfl) (stL_one _) ?_); clear HS; intro w HS))
  have cb := HS.cell 2 rfl
  go_upto_region 9 with (go_at_call 12; refine (start_calls (ca := ca) (ci := ci) (fun w h => Kd.C_below hA (h.old 3 rfl)) (fun w h => Kd.C_below hI (h.old 3 rfl)) hR.liesM hal hm0 (by omega) HS).mono ?_; rintro e w4 ⟨Ap, np, cp, rfl, HS_⟩; clear HS; have HS := HS_; clear HS_)
  have cb := HS.cell 3 rfl
  go_upto_region 10 with (go_at_call 12; refine (start_calls (ca := ca) (ci := ci) (fun w h => Kd.C_below hA (h.old 4 rfl)) (fun w h => Kd.C_below hI (h.old 4 rfl)) hR.liesM hal hm0 (by omega) HS).mono ?_; rintro e w5 ⟨Aq, nq_, cq, rfl, HS_⟩; clear HS; have HS := HS_; clear HS_)
  obtain ⟨hnq, hcq⟩ := HS.cap 0 rfl
  have hsl := startF_length ins arrs mem
  have hw := Sat.word HS 0 rfl x hx0 (by rw [hsl]; omega)
  obtain ⟨gq, rfl, hcell, hfr, hset⟩ := hw
  have hnq2 : (x < (nq_ : Int)) = True := eq_true (by omega)
  have hx0t := eq_true hx0
  have HQ := Aside0.mk (hset v)
  have HNQ := Aside0.mk hnq
  clear hset hnq hsl
  go_upto_region 11 with (fail)
  refine wp_sat HQ.out (fun w HS => ?_)
  clear HQ hcell hfr hnq2
  replace HS := HS.pick [3, 1, 2, 0, 4, 5] (by decide)
  go_wp2
  go_loopg [13] 102 (fun kq v13 w' => ∃ (i : Nat) (s : St) (a b : List Int), v13 = .int .i64 (i : Int) ∧ Aside0 (s.regs.length = 64 ∧ i ≤ 100 ∧ 102 ≤ kq + i ∧ a.length = mem.toNat ∧ Diff x a b) ∧
      Aside0 (Sat W w' [blk g9 32 (stL s).toArray, row IW 2 (.slice Ap np cp) a, blk g10 32 (stL s).toArray, row IW 2 (.slice (some ⟨gq, 0, none⟩) nq_ cq) b, blk gb 25 #[.slice Ac code.length cc, .slice Aa arrs.length ca, .int .i64 st, .int .i64 mem], old W]))
  case atStart => exact ⟨0, beginS st, startF ins arrs mem, _, rfl, ⟨begin_len st, by omega, by omega, startF_length _ _ _, Diff.set_one hx0⟩, ⟨HS⟩⟩
  case round =>
    clear HS cb
    obtain ⟨i, s, a, b, rfl, HM, HS'⟩ := hrel
    have HS := HS'.out
    clear HS'
    have hs := HM.out.1
    cases gk with
    | zero => have := HM.out; omega
    | succ k1 =>
      have c65 := (st_cell HS 0 rfl 65).trans (stL_ended hs)
      have cb := HS.cell 4 rfl
      obtain ⟨I, hI_⟩ : ∃ I : Int, (i : Int) = I := ⟨_, rfl⟩
      rw [hI_]
      have HII := Aside0.mk hI_
      by_cases hlt : I < 100
      · have hltb : decide (I < 100) = true := decide_eq_true hlt
        clear hI_
        by_cases he : s.ended = true
        · rw [he] at c65
          go_wp2
          go_ret
          exact ⟨rfl, HS.old 5 rfl⟩
        · have he : s.ended = false := by simpa using he
          rw [he] at c65
          have R := step_calls (wMem g9 Ap np cp) (c := cc) (fun w h => Kd.C_below hC (h.old 3 rfl)) hR.fits trivial hs HS.join
          have hk := stepF_keeps wF code s a hs
          have hmem := stepF_mem code s a
          have h2 := step_two HM.out.2.2.2.2 code s
          have hk2 := stepF_keeps wF code s b hs
          obtain ⟨q, hq⟩ : ∃ q, q = stepF wF code s b := ⟨_, rfl⟩
          rw [← hq] at h2 hk2
          have HQ2 := Aside0.mk hq
          clear hq
          obtain ⟨r, hr⟩ : ∃ r, r = stepF wF code s a := ⟨_, rfl⟩
          rw [← hr] at hk hmem h2
          change Calls _ _ #[.pointer (some ⟨g9, 0, none⟩), .slice Ac code.length cc, .iface 35 (.slice Ap np cp)] _ (DoPost (wMem g9 Ap np cp) W _ (stepF wF code s a)) at R
          rw [← hr] at R
          clear hr
          have HRR := Aside0.mk R
          have HK := Aside0.mk (And.intro hk.1 hmem)
          have HK3 := Aside0.mk hk.2.2
          have HK2 := Aside0.mk hk2.1
          have H2 := Aside0.mk h2
          clear R he hmem hk hk2 h2
          go_upto_region 15 with (go_at_call 13; (with_reducible refine HRR.out.mono ?_); rintro e w_ ⟨vx, rfl, HS_⟩; clear HS; have HS := Sat.split (HS_.front 1 rfl); clear HS_; obtain ⟨Ax, cx, rfl⟩ := HS.slice 2 rfl)
          clear HRR
          replace HS := HS.front 3 rfl
          replace HS := (HS.front 4 rfl).swap
          have cb := HS.cell 5 rfl
          have R := step_calls (wMem g10 (some ⟨gq, 0, none⟩) nq_ cq) (c := cc) (fun w h => Kd.C_below hC (h.old 4 rfl)) hR.fits trivial hs HS.join
          change Calls _ _ #[.pointer (some ⟨g10, 0, none⟩), .slice Ac code.length cc, .iface 35 (.slice (some ⟨gq, 0, none⟩) nq_ cq)] _ (DoPost (wMem g10 (some ⟨gq, 0, none⟩) nq_ cq) W _ (stepF wF code s b)) at R
          rw [← HQ2.out] at R
          have HRR := Aside0.mk R
          clear R HQ2
          go_upto_region 16 with (go_at_call 13; (with_reducible refine HRR.out.mono ?_); rintro e w_ ⟨vy, rfl, HS_⟩; clear HS; have HS := Sat.split (HS_.front 1 rfl); clear HS_; obtain ⟨Ay, cy, rfl⟩ := HS.slice 2 rfl)
          clear HRR
          obtain ⟨r1, r2, r3⟩ := r
          obtain ⟨q1, q2, q3⟩ := q
          dsimp only at HS HK HK2 HK3 ⊢
          go_wp2
          go_loopg [68] 5 (fun kq v68 w' => ∃ (j : Nat), v68 = .int .i64 (j : Int) ∧ Aside0 (j ≤ r3.length ∧ r3.length + 1 ≤ kq + j ∧ ∀ k, k < j → ¬ ((rd_T53 r3 (k : Int)).f0 = 2 ∧ (rd_T53 r3 (k : Int)).f1 = x)) ∧
            Aside0 (Sat W w' [blk g10 32 (stL q1).toArray, row IW 2 (.slice (some ⟨gq, 0, none⟩) nq_ cq) q2, row k53 53 (.slice Ay q3.length cy) q3, blk g9 32 (stL r1).toArray, row IW 2 (.slice Ap np cp) r2, row k53 53 (.slice Ax r3.length cx) r3, blk gb 25 #[.slice Ac code.length cc, .slice Aa arrs.length ca, .int .i64 st, .int .i64 mem], old W]))
          case atStart => exact ⟨0, rfl, ⟨by omega, by have := HK3.out; omega, fun k hk => by omega⟩, ⟨HS⟩⟩
          case round =>
            clear HS cb
            obtain ⟨j, rfl, HJ, HS'⟩ := hrel
            have HS := HS'.out
            clear HS'
            cases gk with
            | zero => have := HJ.out; omega
            | succ k2 =>
              obtain ⟨J, hJ_⟩ : ∃ J : Int, (j : Int) = J := ⟨_, rfl⟩
              rw [hJ_]
              have HJJ := Aside0.mk hJ_
              by_cases hjl : J < (r3.length : Int)
              · have hjb : decide (J < (r3.length : Int)) = true := decide_eq_true hjl
                have hj0 : 0 ≤ J := by omega
                obtain ⟨ad, rfl, x0, x1, x2⟩ := at_T53 (HS.C 5 rfl) J hj0 hjl
                have s1 := eq_true hj0
                have s2 := eq_true hjl
                obtain ⟨o, ho⟩ : ∃ o, o = rd_T53 r3 J := ⟨_, rfl⟩
                rw [← ho] at x0 x1 x2
                have HO := Aside0.mk ho
                clear hJ_ ho
                by_cases h0 : o.f0 = 2
                · have h0b : (o.f0 == 2) = true := beq_iff_eq.mpr h0
                  by_cases h1 : o.f1 = x
                  · have h1b : (o.f1 == x) = true := beq_iff_eq.mpr h1
                    clear h0 h1
                    go_upto_region 19 with (first | ((with_reducible refine gate_dst (N := 17) rfl ?_); go_must (refine ev_box HS rfl (N := 17) rfl (cs := #[.int .i64 0, .int .i64 0, .int .i64 0]) (t := 53) ?hrun ?_); (case hrun => first | (go_simp; done) | (go_simp; rfl)); clear HS; intro gx w HS) | ((with_reducible refine gate_store (t := 53) (p := 17) rfl ?_); go_must (refine ev_store HS 0 rfl rfl 53 (.tmp 17) (.tmp 71) rfl rfl rfl [.int .i64 o.f0, .int .i64 o.f1, .int .i64 o.f2] ?hx (by kernel_rfl) (by rfl) ?h1 ?_); (case hx => first | rfl | (go_simp; done)); (case h1 => simp [Value.oneCell']); clear HS; intro w HS))
                    have cx := HS.cell 0 rfl
                    go_wp2
                    go_ret
                    exact ⟨rfl, HS.old 8 rfl⟩
                  · have h1b : (o.f1 == x) = false := beq_eq_false_iff_ne.mpr h1
                    have HN := Aside0.mk h1
                    clear h0 h1
                    go_upto_region 19 with (first | ((with_reducible refine gate_dst (N := 17) rfl ?_); go_must (refine ev_box HS rfl (N := 17) rfl (cs := #[.int .i64 0, .int .i64 0, .int .i64 0]) (t := 53) ?hrun ?_); (case hrun => first | (go_simp; done) | (go_simp; rfl)); clear HS; intro gx w HS) | ((with_reducible refine gate_store (t := 53) (p := 17) rfl ?_); go_must (refine ev_store HS 0 rfl rfl 53 (.tmp 17) (.tmp 71) rfl rfl rfl [.int .i64 o.f0, .int .i64 o.f1, .int .i64 o.f2] ?hx (by kernel_rfl) (by rfl) ?h1 ?_); (case hx => first | rfl | (go_simp; done)); (case h1 => simp [Value.oneCell']); clear HS; intro w HS))
                    have cx := HS.cell 0 rfl
                    go_wp2
                    go_roundg k2
                    case measure => have := HJ.out; omega
                    case rel =>
                      refine ⟨j + 1, ?_, ⟨by have := HJJ.out; omega, by have := HJ.out; omega, fun k hk => ?_⟩, ⟨HS.tail⟩⟩
                      · rw [← HJJ.out, w64 ((j : Int) + 1) (by omega) (by have := HJ.out; have := HK3.out; omega)]; rfl
                      · by_cases e : k = j
                        · subst e; rw [HJJ.out, ← HO.out]; exact fun h => HN.out h.2
                        · exact HJ.out.2.2 k (by omega)
                · have h0b : (o.f0 == 2) = false := beq_eq_false_iff_ne.mpr h0
                  have HN := Aside0.mk h0
                  clear h0
                  go_upto_region 19 with (first | ((with_reducible refine gate_dst (N := 17) rfl ?_); go_must (refine ev_box HS rfl (N := 17) rfl (cs := #[.int .i64 0, .int .i64 0, .int .i64 0]) (t := 53) ?hrun ?_); (case hrun => first | (go_simp; done) | (go_simp; rfl)); clear HS; intro gx w HS) | ((with_reducible refine gate_store (t := 53) (p := 17) rfl ?_); go_must (refine ev_store HS 0 rfl rfl 53 (.tmp 17) (.tmp 71) rfl rfl rfl [.int .i64 o.f0, .int .i64 o.f1, .int .i64 o.f2] ?hx (by kernel_rfl) (by rfl) ?h1 ?_); (case hx => first | rfl | (go_simp; done)); (case h1 => simp [Value.oneCell']); clear HS; intro w HS))
                  have cx := HS.cell 0 rfl
                  go_wp2
                  go_roundg k2
                  case measure => have := HJ.out; omega
                  case rel =>
                    refine ⟨j + 1, ?_, ⟨by have := HJJ.out; omega, by have := HJ.out; omega, fun k hk => ?_⟩, ⟨HS.tail⟩⟩
                    · rw [← HJJ.out, w64 ((j : Int) + 1) (by omega) (by have := HJ.out; have := HK3.out; omega)]; rfl
                    · by_cases e : k = j
                      · subst e; rw [HJJ.out, ← HO.out]; exact fun h => HN.out h.1
                      · exact HJ.out.2.2 k (by omega)
              · have hjb : decide (J < (r3.length : Int)) = false := decide_eq_false hjl
                clear hJ_
                have hA : r1 = q1 ∧ r3 = q3 ∧ Diff x r2 q2 := by
                  rcases H2.out with ⟨o, ho, h0, h1⟩ | h
                  · obtain ⟨k, hk, hko⟩ := List.getElem_of_mem ho
                    dsimp only at hk hko
                    have := HJ.out.2.2 k (by have := HJJ.out; have := HJ.out.1; omega)
                    unfold rd_T53 at this
                    rw [List.getD_eq_getElem?_getD, show ((k : Int)).toNat = k by omega, List.getElem?_eq_getElem hk, hko] at this
                    exact absurd ⟨h0, h1⟩ this
                  · exact h
                obtain ⟨e1, e2, hd⟩ := hA
                subst e1 e2
                have hcx := (HS.cap 5 rfl).2
                have hcy := (HS.cap 2 rfl).2
                have hse := same_neq r1 HK.out.1
                have HD := Aside0.mk hd
                have hrr : r3.length ≤ 1000000 := by have := HK3.out; omega
                have hrl : r1.regs.length = 64 := HK.out.1
                clear hd
                go_wp2_with (first | ((with_reducible refine gate_load (ty := 32) (p := 9) rfl ?_); (refine gate_guard (by rfl) ?_); dsimp only; go_must (refine ev_load HS 3 rfl rfl 32 (.tmp 9) rfl (N := 87) rfl rfl _ Try.underlying32 rfl (size32 hrl) ?_)) | ((with_reducible refine gate_load (ty := 32) (p := 10) rfl ?_); (refine gate_guard (by rfl) ?_); dsimp only; go_must (refine ev_load HS 0 rfl rfl 32 (.tmp 10) rfl (N := 88) rfl rfl _ Try.underlying32 rfl (size32 hrl) ?_)) | (go_at_call 16; (with_reducible refine (palingslaw19_Seen.calls 1000001 _ _ r3 _ _ r3 true _ (HS.C 5 rfl) hcx (HS.C 2 rfl) hcy (seen_same r3 hrr)).mono ?_); rintro e w_ ⟨rfl, hd_⟩; replace HS := HS.below hd_.below; clear hd_))
                go_roundg k1
                case measure => have := HM.out; omega
                case rel =>
                  refine ⟨i + 1, r1, r2, q2, ?_, ⟨hrl, by have := HII.out; omega, by have := HM.out; omega, ?_, HD.out⟩, ⟨HS.pick [3, 4, 0, 1, 6, 7] (by decide)⟩⟩
                  · rw [← HII.out, w64 ((i : Int) + 1) (by omega) (by have := HM.out; omega)]; rfl
                  · have := HK.out.2; rw [this]; exact HM.out.2.2.2.1
      · have hltb : decide (I < 100) = false := decide_eq_false hlt
        clear hI_
        go_wp2
        go_ret
        exact ⟨rfl, HS.old 5 rfl⟩
end
theorem two_walk {H : Type} {enc : TypeId × Value → H} {d0 d1 : DataW H} {p0 p1 : List MemPlace} (v0 v1 : Value) (a v : Int) (W : World) (h0 : Arg enc Try.prog W 25 v0 d0 p0) (h1 : Arg enc Try.prog W 26 v1 d1 p1) (_ : (Lit.int .i64 a).wf = true) (_ : (Lit.int .i64 v).wf = true) :
    Calls Try.prog 6 #[v0, v1, .int .i64 a, .int .i64 v] W fun e w' => e = .returned (.bool true) ∧ Below W.heap.size W w' := by
  obtain ⟨Ac, cc, code, Aa, ca, arrs, st, mem, rfl, hcc, hca, hC, hA, _, _, _⟩ := open_img h0
  obtain ⟨Ai, ci, ins, rfl, hci, hI⟩ := open_rows h1
  obtain ⟨b, hb, hF⟩ := few_tells code arrs st mem ins
  cases b with
  | false => exact two_few a v W hC hcc hA hca hI hci hb
  | true =>
    by_cases hm : mem = 0
    · exact two_zero a v W hC hcc hA hca hI hci hb hm
    · exact two_main a v W hC hcc hA hca hI hci hb (hF rfl) hm
end Go.Proofs.Ytigimkcppocodaa.B
