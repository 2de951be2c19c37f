/- SpecBacks: told to go back the machine is where it knows it is, whatever was guessed. -/
import Derived.Test.YtiafbpbbhgpjkaaSpecLaw
namespace Go.Proofs.Ytiafbpbbhgpjkaa.B
open Go.RowKit Go.Proofs.Ytiafbpbbhgpjkaa.Mine Go.Proofs.Ytiafbpbbhgpjkaa.Sep Go.Proofs.YtiafbpbbhgpjkaaW.PrintWords Go.Proofs.YtiafbpbbhgpjkaaW.PrintLast Go.Proofs.YtiafbpbbhgpjkaaW.PrintMore
set_option linter.unusedVariables false
set_option linter.unusedSimpArgs false
section
variable {Ac : Option Addr} {cc : Nat} {code : List S48} {Aa : Option Addr} {ca : Nat} {arrs : List S72} {st me : Int} {Ai : Option Addr} {ci : Nat} {ins : List (List Int)} {As : Option Addr} {cs : Nat} {script : List (Int × Int)}

set_option maxRecDepth 100000 in
set_option maxHeartbeats 1000000 in
theorem backs_few (a2 : Int) (W : World) (hC : Kd.C k48 W Ac code.length code) (hcc : code.length ≤ cc) (hA : Kd.C k72 W Aa arrs.length arrs) (hca : arrs.length ≤ ca) (hI : Kd.C (Kd.slice 2 (Kd.int .i64)) W Ai ins.length ins) (hci : ins.length ≤ ci) (hf : palingslaw19_Few.f 500 code arrs st me ins = some false) :
    Calls Try.prog 8 #[.agg #[.slice Ac code.length cc, .slice Aa arrs.length ca, .int .i64 st, .int .i64 me], .slice Ai ins.length ci, .int .i64 a2, .slice As script.length cs] W fun e W' => e = .returned (.bool true) ∧ Below W.heap.size W W' := by
  have HS := Sat.start W
  have HF := Aside0.mk hf
  clear hf
  go_enter Try.func8, Try.ntmps8
  go_upto_region 1 with ((with_reducible refine gate_dst (N := 4) rfl ?_); go_must (refine ev_box HS rfl (N := 4) rfl (cs := #[.slice Ac code.length cc, .slice Aa arrs.length ca, .int .i64 st, .int .i64 me]) (t := 25) ?hrun ?_); (case hrun => first | (go_simp; done) | (go_simp; rfl)); clear HS; intro gb w HS)
  go_upto_region 3 with (go_at_call 9; refine (head_calls HS).mono ?_; rintro e w_ ⟨rfl, HS_⟩; clear HS; have HS := HS_; clear HS_)
  have cb := HS.cell 0 rfl
  have hb0 := HS.old 1 rfl
  have HC := Aside0.mk (Kd.C_below hC hb0)
  have HA := Aside0.mk (Kd.C_below hA hb0)
  have HI := Aside0.mk (Kd.C_below hI hb0)
  clear hb0
  go_wp2_with (first | ((with_reducible refine gate_load (ty := 25) (p := 4) rfl ?_); go_must (refine ev_load HS 0 rfl rfl 25 (.tmp 4) rfl (N := 21) rfl rfl _ Try.underlying25 rfl (by kernel_rfl) ?_)) | (go_at_call 10; (with_reducible refine (palingslaw19_Few.calls 500 _ _ code _ _ arrs st me _ _ ins false _ HC.out hcc HA.out hca HI.out hci HF.out).mono ?_); rintro e w2 ⟨rfl, hb⟩; replace HS := HS.below hb; clear hb; have cb := HS.cell 0 rfl))
  go_ret
  exact ⟨rfl, HS.old 1 rfl⟩

set_option maxRecDepth 100000 in
set_option maxHeartbeats 1000000 in
theorem backs_long (a2 : Int) (W : World) (hC : Kd.C k48 W Ac code.length code) (hcc : code.length ≤ cc) (hA : Kd.C k72 W Aa arrs.length arrs) (hca : arrs.length ≤ ca) (hI : Kd.C (Kd.slice 2 (Kd.int .i64)) W Ai ins.length ins) (hci : ins.length ≤ ci) (hf : palingslaw19_Few.f 500 code arrs st me ins = some true) (hx : decide (100 < (script.length : Int)) = true) :
    Calls Try.prog 8 #[.agg #[.slice Ac code.length cc, .slice Aa arrs.length ca, .int .i64 st, .int .i64 me], .slice Ai ins.length ci, .int .i64 a2, .slice As script.length cs] W fun e W' => e = .returned (.bool true) ∧ Below W.heap.size W W' := by
  have HS := Sat.start W
  have HF := Aside0.mk hf
  clear hf
  go_enter Try.func8, Try.ntmps8
  go_upto_region 1 with ((with_reducible refine gate_dst (N := 4) rfl ?_); go_must (refine ev_box HS rfl (N := 4) rfl (cs := #[.slice Ac code.length cc, .slice Aa arrs.length ca, .int .i64 st, .int .i64 me]) (t := 25) ?hrun ?_); (case hrun => first | (go_simp; done) | (go_simp; rfl)); clear HS; intro gb w HS)
  go_upto_region 3 with (go_at_call 9; refine (head_calls HS).mono ?_; rintro e w_ ⟨rfl, HS_⟩; clear HS; have HS := HS_; clear HS_)
  have cb := HS.cell 0 rfl
  have hb0 := HS.old 1 rfl
  have HC := Aside0.mk (Kd.C_below hC hb0)
  have HA := Aside0.mk (Kd.C_below hA hb0)
  have HI := Aside0.mk (Kd.C_below hI hb0)
  clear hb0
  go_wp2_with (first | ((with_reducible refine gate_load (ty := 25) (p := 4) rfl ?_); go_must (refine ev_load HS 0 rfl rfl 25 (.tmp 4) rfl (N := 21) rfl rfl _ Try.underlying25 rfl (by kernel_rfl) ?_)) | (go_at_call 10; (with_reducible refine (palingslaw19_Few.calls 500 _ _ code _ _ arrs st me _ _ ins true _ HC.out hcc HA.out hca HI.out hci HF.out).mono ?_); rintro e w2 ⟨rfl, hb⟩; replace HS := HS.below hb; clear hb; have cb := HS.cell 0 rfl))
  go_ret
  exact ⟨rfl, HS.old 1 rfl⟩

set_option maxRecDepth 100000 in
set_option maxHeartbeats 1000000 in
theorem backs_main (a2 : Int) (W : World) (hC : Kd.C k48 W Ac code.length code) (hcc : code.length ≤ cc) (hA : Kd.C k72 W Aa arrs.length arrs) (hca : arrs.length ≤ ca) (hI : Kd.C (Kd.slice 2 (Kd.int .i64)) W Ai ins.length ins) (hci : ins.length ≤ ci) (hf : palingslaw19_Few.f 500 code arrs st me ins = some true) (hF : Fews code arrs st me ins) (hScr : Kd.C kDeed W As script.length script) (hx : decide (100 < (script.length : Int)) = false) :
    Calls Try.prog 8 #[.agg #[.slice Ac code.length cc, .slice Aa arrs.length ca, .int .i64 st, .int .i64 me], .slice Ai ins.length ci, .int .i64 a2, .slice As script.length cs] W fun e W' => e = .returned (.bool true) ∧ Below W.heap.size W W' := by
  have HS := Sat.start W
  have HF := Aside0.mk hf
  clear hf
  have hsl : script.length ≤ 100 := by have := of_decide_eq_false hx; omega
  obtain ⟨B, hB⟩ : ∃ B, B = Go.bits .and .i64 a2 31 := ⟨_, rfl⟩
  have hB0 : 0 ≤ B := by rw [hB, and31]; omega
  have hB1 : B ≤ 31 := by rw [hB, and31]; omega
  have hbits : Go.bits .and .i64 a2 31 = B := hB.symm
  obtain ⟨win, hwin⟩ : ∃ win, 1 + B = win := ⟨_, rfl⟩
  have hw : wrap64 win = win := w64 _ (by omega) (by omega)
  have hw0 : 1 ≤ win := by omega
  have hw1 : win ≤ 1000 := by omega
  clear hB
  have HFI := Aside0.mk (fine_of (ins := ins) hF.right)
  go_enter Try.func8, Try.ntmps8
  go_upto_region 1 with ((with_reducible refine gate_dst (N := 4) rfl ?_); go_must (refine ev_box HS rfl (N := 4) rfl (cs := #[.slice Ac code.length cc, .slice Aa arrs.length ca, .int .i64 st, .int .i64 me]) (t := 25) ?hrun ?_); (case hrun => first | (go_simp; done) | (go_simp; rfl)); clear HS; intro gb w HS)
  go_upto_region 3 with (go_at_call 9; refine (head_calls HS).mono ?_; rintro e w_ ⟨rfl, HS_⟩; clear HS; have HS := HS_; clear HS_)
  have cb := HS.cell 0 rfl
  have hb0 := HS.old 1 rfl
  have HC := Aside0.mk (Kd.C_below hC hb0)
  have HA := Aside0.mk (Kd.C_below hA hb0)
  have HI := Aside0.mk (Kd.C_below hI hb0)
  clear hb0
  go_upto_region 5 with (first | ((with_reducible refine gate_load (ty := 25) (p := 4) rfl ?_); go_must (refine ev_load HS 0 rfl rfl 25 (.tmp 4) rfl (N := 21) rfl rfl _ Try.underlying25 rfl (by kernel_rfl) ?_)) | (go_at_call 10; (with_reducible refine (palingslaw19_Few.calls 500 _ _ code _ _ arrs st me _ _ ins true _ HC.out hcc HA.out hca HI.out hci HF.out).mono ?_); rintro e w2 ⟨rfl, hb⟩; replace HS := HS.below hb; clear hb; have cb := HS.cell 0 rfl))
  clear HC HA HI
  go_upto_region 6 with (first | ((with_reducible refine gate_load (ty := 25) (p := 4) rfl ?_); go_must (refine ev_load HS 0 rfl rfl 25 (.tmp 4) rfl (N := 31) rfl rfl _ Try.underlying25 rfl (by kernel_rfl) ?_)) | (go_at_call 11; refine (new_calls (fun w h => Kd.C_below hC (h.old 1 rfl)) hcc (fun w h => Kd.C_below hA (h.old 1 rfl)) hca (fun w h => Kd.C_below hI (h.old 1 rfl)) (Aside0.mk HFI.out.right.choose_spec) HFI.out.lies HFI.out.al HFI.out.m0 HFI.out.m1 HFI.out.cl hw0 hw1 HS).mono ?_; rintro e w_ ⟨g, Am, cm, At, ct, rfl, HS_⟩; clear HS; have HS := HS_; clear HS_))
  clear cb
  replace HS : Sat W w_ [mch g Am me.toNat cm (.slice Ac code.length cc) (.slice At (sitesF code 0).length ct) win (newX st me arrs ins), row IW 3 (.slice At (sitesF code 0).length ct) (sitesF code 0), blk gb 25 #[.slice Ac code.length cc, .slice Aa arrs.length ca, .int .i64 st, .int .i64 me], old W] := HS
  go_wp2
  go_loopg [43] (script.length + 1) (fun kq v43 w' => ∃ (i : Nat) (X : SM), v43 = .int .i64 (i : Int) ∧ Aside0 (i ≤ script.length ∧ script.length + 1 ≤ kq + i ∧ Inv code (beginS st, startF ins arrs me) (2 * i) X) ∧
      Aside0 (Sat W w' [mch g Am me.toNat cm (.slice Ac code.length cc) (.slice At (sitesF code 0).length ct) win X, row IW 3 (.slice At (sitesF code 0).length ct) (sitesF code 0), blk gb 25 #[.slice Ac code.length cc, .slice Aa arrs.length ca, .int .i64 st, .int .i64 me], old W]))
  case atStart => exact ⟨0, (newX st me arrs ins), rfl, ⟨by omega, by omega, new_inv code st me arrs ins⟩, ⟨HS⟩⟩
  case round =>
    clear HS
    obtain ⟨i, X, rfl, HJ, HS'⟩ := hrel
    have HS := HS'.out
    clear HS'
    cases gk with
    | zero => have := HJ.out; omega
    | succ k1 =>
      by_cases hk : i < script.length
      · obtain ⟨I, hI_⟩ : ∃ I : Int, (i : Int) = I := ⟨_, rfl⟩
        have p1 : 0 ≤ I := by omega
        have q1 : I < (script.length : Int) := by omega
        have c1_ : decide (I < (script.length : Int)) = true := decide_eq_true q1
        obtain ⟨ad, rfl, x0, x1⟩ := at_D (Kd.C_below hScr (HS.old 3 rfl)) I p1 q1
        obtain ⟨d, hd⟩ : ∃ d, d = rd_D script I := ⟨_, rfl⟩
        have hinv := HJ.out.2.2
        have hgood := doM_good hinv (by omega) (sitesF code 0) win d.1 d.2
        obtain ⟨Q, hQ⟩ : ∃ Q, Q = doM code (sitesF code 0) win X d.1 d.2 := ⟨_, rfl⟩
        rw [← hQ] at hgood
        have HIV := Aside0.mk (And.intro hinv hgood)
        rw [← hd] at x0 x1
        rw [hI_]
        have HII := Aside0.mk hI_
        have hwi : wrap64 (I + 1) = I + 1 := w64 _ (by omega) (by omega)
        have HIK := Aside0.mk (show i < script.length ∧ i ≤ 200 from ⟨hk, by omega⟩)
        clear hd hI_ hk hinv hgood
        have r1 := eq_true p1
        have r2 := eq_true q1
        obtain ⟨d1, d2⟩ := d
        dsimp only at x0 x1
        have HQQ := Aside0.mk hQ
        clear hQ
        go_upto_region 11 with (first | ((with_reducible refine gate_dst (N := 12) rfl ?_); go_must (refine ev_box HS rfl (N := 12) rfl (cs := #[.int .i64 0, .int .i64 0]) (t := 44) ?hrun ?_); (case hrun => first | (go_simp; done) | (go_simp; rfl)); clear HS; intro gd w HS) | ((with_reducible refine gate_store (t := 44) (p := 12) rfl ?_); go_must (refine ev_store HS 0 rfl rfl 44 (.tmp 12) (.tmp 46) rfl rfl rfl [.int .i64 d1, .int .i64 d2] ?hx (by kernel_rfl) (by rfl) ?h1 ?_); (case hx => first | rfl | (go_simp; done)); (case h1 => simp [Value.oneCell']); clear HS; intro w HS))
        replace HS := HS.swap
        have HDD := Aside0.mk (show Calls Try.prog 15 #[.pointer (some ⟨g, 0, none⟩), .agg #[.int .i64 d1, .int .i64 d2]] w (fun e w' => ∃ v, e = .returned v ∧ Sat W w' (row k60 60 v Q.2 :: mch g Am me.toNat cm (.slice Ac code.length cc) (.slice At (sitesF code 0).length ct) win Q.1 :: _)) from by
          rw [HQQ.out]
          exact deed_calls (sites := (sitesF code 0)) (deed := d1) (tq := d2) (X := X) (fun w h => Kd.C_below hC (h.old 3 rfl)) (fun w h => h.C 1 rfl) HFI.out.fit (by have := sitesF_len code 0; have := HFI.out.cl; omega) (by have := HIV.out.1.cnt; have := HIK.out; omega) (by have := HIV.out.1.len; have := HIK.out; omega) HS)
        go_upto_region 12 with (first | ((with_reducible refine gate_load (ty := 44) (p := 12) rfl ?_); go_must (refine ev_load HS 1 rfl rfl 44 (.tmp 12) rfl (N := 48) rfl rfl _ Try.underlying44 rfl (by kernel_rfl) ?_)) | (go_at_call 15; refine HDD.out.mono ?_; rintro e w_ ⟨v, rfl, HS_⟩; clear HS HDD; have HS := HS_.tail; clear HS_))
        have HGU := Aside0.mk (guesses_at (X := Q.1) (by have := HIV.out.2.1.cnt; have := HIK.out; omega) 0 rfl HS)
        cases hg : Q.1.saved.isSome with
        | false =>
          rw [hg] at HGU
          clear hg
          go_wp2_with (go_at_call 17; refine HGU.out.mono ?_; rintro e w_ ⟨rfl, HS_⟩; clear HS HGU; have HS := HS_; clear HS_)
          go_roundg k1
          case measure => omega
          case rel =>
            refine ⟨i + 1, Q.1, by rw [← HII.out]; first | rfl | (rw [w64 ((i : Int) + 1) (by omega) (by have := HIK.out; omega)]; rfl), ⟨by have := HIK.out; omega, by have := HJ.out; omega, HIV.out.2.1.le (by omega)⟩, ⟨HS.erase 1⟩⟩
        | true =>
          rw [hg] at HGU
          obtain ⟨q, hq⟩ := Option.isSome_iff_exists.1 hg
          have hml : Q.1.mem.length ≤ 1048576 := by
            rw [HIV.out.2.1.mem]
            show (startF ins arrs me).length ≤ 1048576
            unfold startF
            rw [startL_length, List.length_replicate]
            have := HFI.out.m1
            omega
          have hbl : Q.1.buf.length ≤ 1000000 := by have := HIV.out.2.1.len; have := HIK.out; omega
          have hql : q.2.length ≤ 1000000 := by have := (HIV.out.2.1.sav q hq).2.2.1; have := HIK.out; omega
          have hbk : backF Q.1 = { Q.1 with s := q.1, buf := q.2, saved := none, n := 0 } := by unfold backF; rw [hq]
          have hdo : doM code (sitesF code 0) win Q.1 3 0 = (backF Q.1, [⟨6, 0, 0⟩]) := by
            unfold doM
            rw [if_neg (by rw [hg]; simp), if_pos ⟨hg, .inl rfl⟩]
          have hS1 : kwnS Q.1 = q.1 := by unfold kwnS; rw [hq]
          have hM1 : kwnM Q.1 = wrs Q.1.mem q.2 := by unfold kwnM kwnB; rw [hq]
          have hS2 : kwnS (backF Q.1) = q.1 := by rw [hbk]; rfl
          have hM2 : kwnM (backF Q.1) = wrs Q.1.mem q.2 := by rw [hbk]; rfl
          have hs : q.1.regs.length = 64 := (HIV.out.2.1.sav q hq).1
          have HK1 := Aside0.mk (fun {w : World} {L : List Chunk} (HS : Sat W w (mch g Am me.toNat cm (.slice Ac code.length cc) (.slice At (sitesF code 0).length ct) win Q.1 :: L)) => known_calls hml hbl (show (kwnB Q.1).length ≤ 1000000 by unfold kwnB; rw [hq]; exact hql) HS)
          have HK2 := Aside0.mk (fun {w : World} {L : List Chunk} (HS : Sat W w (mch g Am me.toNat cm (.slice Ac code.length cc) (.slice At (sitesF code 0).length ct) win (backF Q.1) :: L)) => known_calls (X := backF Q.1) (by rw [hbk]; exact hml) (by rw [hbk]; exact hql) (show (kwnB (backF Q.1)).length ≤ 1000000 by rw [hbk]; exact hql) HS)
          rw [hS1, hM1] at HK1
          rw [hS2, hM2] at HK2
          have HBN := Aside0.mk (show (backF Q.1).n ≤ 1000000 ∧ (backF Q.1).saved.isSome = false from by rw [hbk]; exact ⟨Nat.zero_le _, rfl⟩)
          have HBS := Aside0.mk (show (backF Q.1).s = q.1 from by rw [hbk])
          have HBI := Aside0.mk ((back_good HIV.out.2.1).1)
          have HDO := Aside0.mk hdo
          obtain ⟨S, hS⟩ : ∃ S, S = q.1 := ⟨_, rfl⟩
          obtain ⟨M, hM⟩ : ∃ M, M = wrs Q.1.mem q.2 := ⟨_, rfl⟩
          have hMl : M.length ≤ 1048576 := by rw [hM, wrs_length]; exact hml
          rw [← hS] at hs HK1 HK2 HBS
          rw [← hM] at HK1 HK2
          obtain ⟨lm, hlm⟩ : ∃ lm, M.length = lm := ⟨_, rfl⟩
          have HLM := Aside0.mk hlm
          have HML := Aside0.mk (show lm ≤ 1048576 by omega)
          clear hg hq hml hbl hql hbk hdo hS1 hM1 hS2 hM2 hS hM hMl hlm
          go_upto_region 13 with (go_at_call 17; refine HGU.out.mono ?_; rintro e w_ ⟨rfl, HS_⟩; clear HS HGU; have HS := HS_; clear HS_)
          have HKA := Aside0.mk (HK1.out HS)
          go_upto_region 14 with (first | (go_at_call 20; refine HKA.out.mono ?_; rintro e w_ ⟨v, rfl, HS_⟩; clear HS HKA; have HS := HS_; clear HS_; obtain ⟨V1, c1, rfl⟩ := HS.slice 0 rfl; rw [HLM.out] at HS ⊢) | ((with_reducible refine gate_dst (N := 13) rfl ?_); go_must (refine ev_box HS rfl (N := 13) rfl (cs := (stL z0).toArray) (t := 37) ?hrun ?_); (case hrun => first | (go_simp; done) | (go_simp; rfl)); clear HS; intro g13 w HS) | ((with_reducible refine gate_store (t := 37) (p := 13) rfl ?_); go_must (refine ev_store HS 0 rfl rfl 37 (.tmp 13) (.tmp 56) rfl rfl rfl (stL S) rfl (len32 hs) (by rw [stL_length hs]; rfl) (stL_one _) ?_); clear HS; intro w HS))
          clear HK1
          replace HS : Sat W w [mch g Am me.toNat cm (.slice Ac code.length cc) (.slice At (sitesF code 0).length ct) win Q.1, blk g13 37 (stL S).toArray, row IW 2 (.slice V1 lm c1) M, blk gd 44 #[.int .i64 d1, .int .i64 d2], row IW 3 (.slice At (sitesF code 0).length ct) (sitesF code 0), blk gb 25 #[.slice Ac code.length cc, .slice Aa arrs.length ca, .int .i64 st, .int .i64 me], old W] := HS.front 2 rfl
          have HDB := Aside0.mk (show Calls Try.prog 15 #[.pointer (some ⟨g, 0, none⟩), .agg #[.int .i64 3, .int .i64 0]] w (fun e w' => ∃ v, e = .returned v ∧ Sat W w' (row k60 60 v [⟨6, 0, 0⟩] :: mch g Am me.toNat cm (.slice Ac code.length cc) (.slice At (sitesF code 0).length ct) win (backF Q.1) :: [blk g13 37 (stL S).toArray, row IW 2 (.slice V1 lm c1) M, blk gd 44 #[.int .i64 d1, .int .i64 d2], row IW 3 (.slice At (sitesF code 0).length ct) (sitesF code 0), blk gb 25 #[.slice Ac code.length cc, .slice Aa arrs.length ca, .int .i64 st, .int .i64 me], old W])) from by
            have h := deed_calls (sites := (sitesF code 0)) (deed := 3) (tq := 0) (X := Q.1) (fun w h => Kd.C_below hC (h.old 5 rfl)) (fun w h => h.C 3 rfl) HFI.out.fit (by have := sitesF_len code 0; have := HFI.out.cl; omega) (by have := HIV.out.2.1.cnt; have := HIK.out; omega) (by have := HIV.out.2.1.len; have := HIK.out; omega) HS
            rw [HDO.out] at h
            exact h)
          go_upto_region 15 with (go_at_call 15; refine HDB.out.mono ?_; rintro e w_ ⟨v, rfl, HS_⟩; clear HS HDB; have HS := HS_; clear HS_; obtain ⟨Vo, co, rfl⟩ := HS.slice 0 rfl; simp only [List.length_cons, List.length_nil, Nat.zero_add] at HS ⊢)
          replace HS := HS.swap
          have HKB := Aside0.mk (HK2.out HS)
          go_upto_region 16 with (first | (go_at_call 20; refine HKB.out.mono ?_; rintro e w_ ⟨v, rfl, HS_⟩; clear HS HKB; have HS := HS_; clear HS_; obtain ⟨V2, c2, rfl⟩ := HS.slice 0 rfl; rw [HLM.out] at HS ⊢) | ((with_reducible refine gate_dst (N := 16) rfl ?_); go_must (refine ev_box HS rfl (N := 16) rfl (cs := (stL z0).toArray) (t := 37) ?hrun ?_); (case hrun => first | (go_simp; done) | (go_simp; rfl)); clear HS; intro g16 w HS) | ((with_reducible refine gate_store (t := 37) (p := 16) rfl ?_); go_must (refine ev_store HS 0 rfl rfl 37 (.tmp 16) (.tmp 64) rfl rfl rfl (stL S) rfl (len32 hs) (by rw [stL_length hs]; rfl) (stL_one _) ?_); clear HS; intro w HS))
          clear HK2
          replace HS : Sat W w [blk g16 37 (stL S).toArray, row IW 2 (.slice V2 lm c2) M, mch g Am me.toNat cm (.slice Ac code.length cc) (.slice At (sitesF code 0).length ct) win (backF Q.1), row k60 60 (.slice Vo 1 co) [⟨6, 0, 0⟩], blk g13 37 (stL S).toArray, row IW 2 (.slice V1 lm c1) M, blk gd 44 #[.int .i64 d1, .int .i64 d2], row IW 3 (.slice At (sitesF code 0).length ct) (sitesF code 0), blk gb 25 #[.slice Ac code.length cc, .slice Aa arrs.length ca, .int .i64 st, .int .i64 me], old W] := HS
          obtain ⟨ado, rfl, _⟩ := at_T60 (HS.C 3 rfl) 0 (by decide) (by decide)
          refine start_ (n := 34) (S := fun w' => Sat W w' [blk g16 37 (stL S).toArray, row IW 2 (.slice V2 lm c2) M, mch g Am me.toNat cm (.slice Ac code.length cc) (.slice At (sitesF code 0).length ct) win (backF Q.1), row k60 60 (.slice (some ado) 1 co) [⟨6, 0, 0⟩], blk g13 37 (stL S).toArray, row IW 2 (.slice V1 lm c1) M, blk gd 44 #[.int .i64 d1, .int .i64 d2], row IW 3 (.slice At (sitesF code 0).length ct) (sitesF code 0), blk gb 25 #[.slice Ac code.length cc, .slice Aa arrs.length ca, .int .i64 st, .int .i64 me], old W]) (ds := []) #[false, false, false, false, false, false, false, false, false, false, false, false, false, false, false, false, false, false, false, false, false, false, false, false, false, false, false, false, false, false, false, false, false, false] (by kernel_rfl) rfl rfl HS.drew (fun hHeld => ?_)
          replace HS := HS.drew
          generalize World.drew w = w at HS hHeld ⊢
          refine pure_ (i := 0) (N := some 66) (v := ?_) (a' := ?_) #[true, false, false, false, false, false, false, false, false, false, false, false, false, false, false, false, false, false, false, false, false, false, false, false, false, false, false, false, false, false, false, false, false, false] rfl rfl (by kernel_rfl) (fun _ _ _ h => h) (Or.inl ⟨by rfl, ?_⟩) ?_ ?_
          rotate_left
          · intro w'
            go_simp
            with_reducible rfl
          rotate_left
          · (try simp only [Act.put, List.setIfInBounds_toArray, List.set_cons_zero, List.set_cons_succ, i64_w, i32_w])
            rfl
          refine one_ (i := 1) (N := some 67) #[true, true, false, false, false, false, false, false, false, false, false, false, false, false, false, false, false, false, false, false, false, false, false, false, false, false, false, false, false, false, false, false, false, false] rfl rfl (by kernel_rfl) (by decide) (fun K hK => ?_)
          refine goes_ Try.func17 (by kernel_rfl) rfl #[.pointer (some ⟨g, 0, none⟩)] (by rfl) rfl rfl (by (try simp only [List.map_toArray, List.map_cons, List.map_nil]); first | done | rfl) ?_
          refine (guesses_at (X := backF Q.1) HBN.out.1 2 rfl HS).mono ?_
          rw [HBN.out.2]
          clear HS
          rintro e w ⟨rfl, HS⟩
          refine ⟨_, rfl, ?_⟩
          refine hK.out _ _ HS (fun hHeld => ?_)
          clear hK K
          refine norm_ (a' := ?_) ?_ ?_
          rotate_left
          · show Act.put _ _ _ = _
            (try simp only [Act.put, List.setIfInBounds_toArray, List.set_cons_zero, List.set_cons_succ, i64_w, i32_w])
            rfl
          refine pure_ (i := 2) (N := some 68) (v := ?_) (a' := ?_) #[true, true, true, false, false, false, false, false, false, false, false, false, false, false, false, false, false, false, false, false, false, false, false, false, false, false, false, false, false, false, false, false, false, false] rfl rfl (by kernel_rfl) (fun _ _ _ h => h) (Or.inl ⟨by rfl, ?_⟩) ?_ ?_
          rotate_left
          · intro w'
            go_simp
            with_reducible rfl
          rotate_left
          · (try simp only [Act.put, List.setIfInBounds_toArray, List.set_cons_zero, List.set_cons_succ, i64_w, i32_w])
            rfl
          refine pure_ (i := 3) (N := some 69) (v := ?_) (a' := ?_) #[true, true, true, true, false, false, false, false, false, false, false, false, false, false, false, false, false, false, false, false, false, false, false, false, false, false, false, false, false, false, false, false, false, false] rfl rfl (by kernel_rfl) (fun _ _ _ h => h) (Or.inl ⟨by rfl, ?_⟩) ?_ ?_
          rotate_left
          · intro w'
            go_simp
            with_reducible rfl
          rotate_left
          · (try simp only [Act.put, List.setIfInBounds_toArray, List.set_cons_zero, List.set_cons_succ, i64_w, i32_w])
            rfl
          refine pure_ (i := 4) (N := some 70) (v := ?_) (a' := ?_) #[true, true, true, true, true, false, false, false, false, false, false, false, false, false, false, false, false, false, false, false, false, false, false, false, false, false, false, false, false, false, false, false, false, false] rfl rfl (by kernel_rfl) (fun _ _ _ h => h) (Or.inl ⟨by rfl, ?_⟩) ?_ ?_
          rotate_left
          · intro w'
            go_simp
            with_reducible rfl
          rotate_left
          · (try simp only [Act.put, List.setIfInBounds_toArray, List.set_cons_zero, List.set_cons_succ, i64_w, i32_w])
            rfl
          refine pure_ (i := 5) (N := some 71) (v := ?_) (a' := ?_) #[true, true, true, true, true, true, false, false, false, false, false, false, false, false, false, false, false, false, false, false, false, false, false, false, false, false, false, false, false, false, false, false, false, false] rfl rfl (by kernel_rfl) (fun _ _ _ h => h) (Or.inl ⟨by rfl, ?_⟩) ?_ ?_
          rotate_left
          · intro w'
            go_simp
            with_reducible rfl
          rotate_left
          · (try simp only [Act.put, List.setIfInBounds_toArray, List.set_cons_zero, List.set_cons_succ, i64_w, i32_w])
            rfl
          refine pure_ (i := 6) (N := some 72) (v := ?_) (a' := ?_) #[true, true, true, true, true, true, true, false, false, false, false, false, false, false, false, false, false, false, false, false, false, false, false, false, false, false, false, false, false, false, false, false, false, false] rfl rfl (by kernel_rfl) (fun _ _ _ h => h) (Or.inl ⟨by rfl, ?_⟩) ?_ ?_
          rotate_left
          · intro w'
            go_simp
            with_reducible rfl
          rotate_left
          · (try simp only [Act.put, List.setIfInBounds_toArray, List.set_cons_zero, List.set_cons_succ, i64_w, i32_w])
            rfl
          refine pure_ (i := 7) (N := some 73) (v := ?_) (a' := ?_) #[true, true, true, true, true, true, true, true, false, false, false, false, false, false, false, false, false, false, false, false, false, false, false, false, false, false, false, false, false, false, false, false, false, false] rfl rfl (by kernel_rfl) (fun _ _ _ h => h) (Or.inl ⟨by rfl, ?_⟩) ?_ ?_
          rotate_left
          · intro w'
            go_simp
            with_reducible rfl
          rotate_left
          · (try simp only [Act.put, List.setIfInBounds_toArray, List.set_cons_zero, List.set_cons_succ, i64_w, i32_w])
            rfl
          refine pure_ (i := 8) (N := some 74) (v := ?_) (a' := ?_) #[true, true, true, true, true, true, true, true, true, false, false, false, false, false, false, false, false, false, false, false, false, false, false, false, false, false, false, false, false, false, false, false, false, false] rfl rfl (by kernel_rfl) (fun _ _ _ h => h) (Or.inl ⟨by rfl, ?_⟩) ?_ ?_
          rotate_left
          · intro w'
            go_simp
            with_reducible rfl
          rotate_left
          · (try simp only [Act.put, List.setIfInBounds_toArray, List.set_cons_zero, List.set_cons_succ, i64_w, i32_w])
            rfl
          refine pure_ (i := 9) (N := some 75) (v := ?_) (a' := ?_) #[true, true, true, true, true, true, true, true, true, true, false, false, false, false, false, false, false, false, false, false, false, false, false, false, false, false, false, false, false, false, false, false, false, false] rfl rfl (by kernel_rfl) (fun _ _ _ h => h) (Or.inl ⟨by rfl, ?_⟩) ?_ ?_
          rotate_left
          · intro w'
            go_simp
            with_reducible rfl
          rotate_left
          · (try simp only [Act.put, List.setIfInBounds_toArray, List.set_cons_zero, List.set_cons_succ, i64_w, i32_w])
            rfl
          refine pure_ (i := 10) (N := some 76) (v := ?_) (a' := ?_) #[true, true, true, true, true, true, true, true, true, true, true, false, false, false, false, false, false, false, false, false, false, false, false, false, false, false, false, false, false, false, false, false, false, false] rfl rfl (by kernel_rfl) (fun _ _ _ h => h) (Or.inl ⟨by rfl, ?_⟩) ?_ ?_
          rotate_left
          · intro w'
            go_simp
            with_reducible rfl
          rotate_left
          · (try simp only [Act.put, List.setIfInBounds_toArray, List.set_cons_zero, List.set_cons_succ, i64_w, i32_w])
            rfl
          refine take_ (i := 11) (N := some 77) (v := ?_) (a' := ?_) #[true, true, true, true, true, true, true, true, true, true, true, true, false, false, false, false, false, false, false, false, false, false, false, false, false, false, false, false, false, false, false, false, false, false] rfl rfl (by kernel_rfl) (fun _ _ _ h => h) (Or.inl ⟨by rfl, ?_⟩) hHeld ?_ ?_
          rotate_left
          · rintro w' hS
            obtain ⟨ad2, e2, y0, y1, y2⟩ := at_T60 (hS.C 3 rfl) 0 (by decide) (by decide)
            cases e2
            have y0' : w'.cell? ado = some (.int .i64 6) := by have ha : ado.add 0 = ado := by { unfold Addr.add; simp }; rw [show (0 : Int).toNat * 3 = 0 from rfl, ha] at y0; exact y0
            have r0 := eq_true (show (0 : Int) < ((1 : Nat) : Int) by decide)
            go_simp
            with_reducible rfl
          rotate_left
          · (try simp only [Act.put, List.setIfInBounds_toArray, List.set_cons_zero, List.set_cons_succ, i64_w, i32_w])
            rfl
          refine pure_ (i := 12) (N := some 78) (v := ?_) (a' := ?_) #[true, true, true, true, true, true, true, true, true, true, true, true, true, false, false, false, false, false, false, false, false, false, false, false, false, false, false, false, false, false, false, false, false, false] rfl rfl (by kernel_rfl) (fun _ _ _ h => h) (Or.inl ⟨by rfl, ?_⟩) ?_ ?_
          rotate_left
          · intro w'
            go_simp
            with_reducible rfl
          rotate_left
          · (try simp only [Act.put, List.setIfInBounds_toArray, List.set_cons_zero, List.set_cons_succ, i64_w, i32_w])
            rfl
          refine pure_ (i := 13) (N := some 79) (v := ?_) (a' := ?_) #[true, true, true, true, true, true, true, true, true, true, true, true, true, true, false, false, false, false, false, false, false, false, false, false, false, false, false, false, false, false, false, false, false, false] rfl rfl (by kernel_rfl) (fun _ _ _ h => h) (Or.inl ⟨by rfl, ?_⟩) ?_ ?_
          rotate_left
          · intro w'
            go_simp
            with_reducible rfl
          rotate_left
          · (try simp only [Act.put, List.setIfInBounds_toArray, List.set_cons_zero, List.set_cons_succ, i64_w, i32_w])
            rfl
          refine pure_ (i := 14) (N := some 80) (v := ?_) (a' := ?_) #[true, true, true, true, true, true, true, true, true, true, true, true, true, true, true, false, false, false, false, false, false, false, false, false, false, false, false, false, false, false, false, false, false, false] rfl rfl (by kernel_rfl) (fun _ _ _ h => h) (Or.inl ⟨by rfl, ?_⟩) ?_ ?_
          rotate_left
          · intro w'
            go_simp
            with_reducible rfl
          rotate_left
          · (try simp only [Act.put, List.setIfInBounds_toArray, List.set_cons_zero, List.set_cons_succ, i64_w, i32_w])
            rfl
          refine pure_ (i := 15) (N := some 81) (v := ?_) (a' := ?_) #[true, true, true, true, true, true, true, true, true, true, true, true, true, true, true, true, false, false, false, false, false, false, false, false, false, false, false, false, false, false, false, false, false, false] rfl rfl (by kernel_rfl) (fun _ _ _ h => h) (Or.inl ⟨by rfl, ?_⟩) ?_ ?_
          rotate_left
          · intro w'
            go_simp
            with_reducible rfl
          rotate_left
          · (try simp only [Act.put, List.setIfInBounds_toArray, List.set_cons_zero, List.set_cons_succ, i64_w, i32_w])
            rfl
          refine pure_ (i := 16) (N := some 82) (v := ?_) (a' := ?_) #[true, true, true, true, true, true, true, true, true, true, true, true, true, true, true, true, true, false, false, false, false, false, false, false, false, false, false, false, false, false, false, false, false, false] rfl rfl (by kernel_rfl) (fun _ _ _ h => h) (Or.inl ⟨by rfl, ?_⟩) ?_ ?_
          rotate_left
          · intro w'
            go_simp
            with_reducible rfl
          rotate_left
          · (try simp only [Act.put, List.setIfInBounds_toArray, List.set_cons_zero, List.set_cons_succ, i64_w, i32_w])
            rfl
          refine pure_ (i := 17) (N := some 83) (v := ?_) (a' := ?_) #[true, true, true, true, true, true, true, true, true, true, true, true, true, true, true, true, true, true, false, false, false, false, false, false, false, false, false, false, false, false, false, false, false, false] rfl rfl (by kernel_rfl) (fun _ _ _ h => h) (Or.inl ⟨by rfl, ?_⟩) ?_ ?_
          rotate_left
          · intro w'
            go_simp
            with_reducible rfl
          rotate_left
          · (try simp only [Act.put, List.setIfInBounds_toArray, List.set_cons_zero, List.set_cons_succ, i64_w, i32_w])
            rfl
          refine take_ (i := 18) (N := some 84) (v := ?_) (a' := ?_) #[true, true, true, true, true, true, true, true, true, true, true, true, true, true, true, true, true, true, true, false, false, false, false, false, false, false, false, false, false, false, false, false, false, false] rfl rfl (by kernel_rfl) (fun _ _ _ h => h) (Or.inl ⟨by rfl, ?_⟩) hHeld ?_ ?_
          rotate_left
          · rintro w' hS
            obtain ⟨ad2, e2, y0, y1, y2⟩ := at_T60 (hS.C 3 rfl) 0 (by decide) (by decide)
            cases e2
            have y0' : w'.cell? ado = some (.int .i64 6) := by have ha : ado.add 0 = ado := by { unfold Addr.add; simp }; rw [show (0 : Int).toNat * 3 = 0 from rfl, ha] at y0; exact y0
            have r0 := eq_true (show (0 : Int) < ((1 : Nat) : Int) by decide)
            refine run_load_at 37 (.tmp 83) (stL S) ?_ ?_ _ Try.underlying37 rfl (len32 hs) (by rw [← HBS.out]; exact mstate_at hS 2 rfl) <;> rfl
          rotate_left
          · (try simp only [Act.put, List.setIfInBounds_toArray, List.set_cons_zero, List.set_cons_succ, i64_w, i32_w])
            rfl
          refine take_ (i := 19) (N := some 85) (v := ?_) (a' := ?_) #[true, true, true, true, true, true, true, true, true, true, true, true, true, true, true, true, true, true, true, true, false, false, false, false, false, false, false, false, false, false, false, false, false, false] rfl rfl (by kernel_rfl) (fun _ _ _ h => h) (Or.inl ⟨by rfl, ?_⟩) hHeld ?_ ?_
          rotate_left
          · rintro w' hS
            obtain ⟨ad2, e2, y0, y1, y2⟩ := at_T60 (hS.C 3 rfl) 0 (by decide) (by decide)
            cases e2
            have y0' : w'.cell? ado = some (.int .i64 6) := by have ha : ado.add 0 = ado := by { unfold Addr.add; simp }; rw [show (0 : Int).toNat * 3 = 0 from rfl, ha] at y0; exact y0
            have r0 := eq_true (show (0 : Int) < ((1 : Nat) : Int) by decide)
            refine whole_run hS 4 rfl 37 (.tmp 13) ?_ ?_ _ Try.underlying37 rfl (size32 hs) <;> rfl
          rotate_left
          · (try simp only [Act.put, List.setIfInBounds_toArray, List.set_cons_zero, List.set_cons_succ, i64_w, i32_w])
            rfl
          refine pure_ (i := 20) (N := some 86) (v := ?_) (a' := ?_) #[true, true, true, true, true, true, true, true, true, true, true, true, true, true, true, true, true, true, true, true, true, false, false, false, false, false, false, false, false, false, false, false, false, false] rfl rfl (by kernel_rfl) (fun _ _ _ h => h) (Or.inl ⟨by rfl, ?_⟩) ?_ ?_
          rotate_left
          · intro w'
            refine run_neq_op hs (x := .tmp 84) (y := .tmp 85) ?_ ?_ ?_ w' <;> rfl
          rotate_left
          · (try simp only [Act.put, List.setIfInBounds_toArray, List.set_cons_zero, List.set_cons_succ, i64_w, i32_w])
            rfl
          refine pure_ (i := 21) (N := some 87) (v := ?_) (a' := ?_) #[true, true, true, true, true, true, true, true, true, true, true, true, true, true, true, true, true, true, true, true, true, true, false, false, false, false, false, false, false, false, false, false, false, false] rfl rfl (by kernel_rfl) (fun _ _ _ h => h) (Or.inl ⟨by rfl, ?_⟩) ?_ ?_
          rotate_left
          · intro w'
            go_simp
            with_reducible rfl
          rotate_left
          · (try simp only [Act.put, List.setIfInBounds_toArray, List.set_cons_zero, List.set_cons_succ, i64_w, i32_w])
            rfl
          refine pure_ (i := 22) (N := some 88) (v := ?_) (a' := ?_) #[true, true, true, true, true, true, true, true, true, true, true, true, true, true, true, true, true, true, true, true, true, true, true, false, false, false, false, false, false, false, false, false, false, false] rfl rfl (by kernel_rfl) (fun _ _ _ h => h) (Or.inl ⟨by rfl, ?_⟩) ?_ ?_
          rotate_left
          · intro w'
            go_simp
            with_reducible rfl
          rotate_left
          · (try simp only [Act.put, List.setIfInBounds_toArray, List.set_cons_zero, List.set_cons_succ, i64_w, i32_w])
            rfl
          refine take_ (i := 23) (N := some 89) (v := ?_) (a' := ?_) #[true, true, true, true, true, true, true, true, true, true, true, true, true, true, true, true, true, true, true, true, true, true, true, true, false, false, false, false, false, false, false, false, false, false] rfl rfl (by kernel_rfl) (fun _ _ _ h => h) (Or.inl ⟨by rfl, ?_⟩) hHeld ?_ ?_
          rotate_left
          · rintro w' hS
            obtain ⟨ad2, e2, y0, y1, y2⟩ := at_T60 (hS.C 3 rfl) 0 (by decide) (by decide)
            cases e2
            have y0' : w'.cell? ado = some (.int .i64 6) := by have ha : ado.add 0 = ado := by { unfold Addr.add; simp }; rw [show (0 : Int).toNat * 3 = 0 from rfl, ha] at y0; exact y0
            have r0 := eq_true (show (0 : Int) < ((1 : Nat) : Int) by decide)
            refine whole_run hS 0 rfl 37 (.tmp 16) ?_ ?_ _ Try.underlying37 rfl (size32 hs) <;> rfl
          rotate_left
          · (try simp only [Act.put, List.setIfInBounds_toArray, List.set_cons_zero, List.set_cons_succ, i64_w, i32_w])
            rfl
          refine take_ (i := 24) (N := some 90) (v := ?_) (a' := ?_) #[true, true, true, true, true, true, true, true, true, true, true, true, true, true, true, true, true, true, true, true, true, true, true, true, true, false, false, false, false, false, false, false, false, false] rfl rfl (by kernel_rfl) (fun _ _ _ h => h) (Or.inl ⟨by rfl, ?_⟩) hHeld ?_ ?_
          rotate_left
          · rintro w' hS
            obtain ⟨ad2, e2, y0, y1, y2⟩ := at_T60 (hS.C 3 rfl) 0 (by decide) (by decide)
            cases e2
            have y0' : w'.cell? ado = some (.int .i64 6) := by have ha : ado.add 0 = ado := by { unfold Addr.add; simp }; rw [show (0 : Int).toNat * 3 = 0 from rfl, ha] at y0; exact y0
            have r0 := eq_true (show (0 : Int) < ((1 : Nat) : Int) by decide)
            refine whole_run hS 4 rfl 37 (.tmp 13) ?_ ?_ _ Try.underlying37 rfl (size32 hs) <;> rfl
          rotate_left
          · (try simp only [Act.put, List.setIfInBounds_toArray, List.set_cons_zero, List.set_cons_succ, i64_w, i32_w])
            rfl
          refine pure_ (i := 25) (N := some 91) (v := ?_) (a' := ?_) #[true, true, true, true, true, true, true, true, true, true, true, true, true, true, true, true, true, true, true, true, true, true, true, true, true, true, false, false, false, false, false, false, false, false] rfl rfl (by kernel_rfl) (fun _ _ _ h => h) (Or.inl ⟨by rfl, ?_⟩) ?_ ?_
          rotate_left
          · intro w'
            refine run_neq_op hs (x := .tmp 89) (y := .tmp 90) ?_ ?_ ?_ w' <;> rfl
          rotate_left
          · (try simp only [Act.put, List.setIfInBounds_toArray, List.set_cons_zero, List.set_cons_succ, i64_w, i32_w])
            rfl
          refine pure_ (i := 26) (N := some 92) (v := ?_) (a' := ?_) #[true, true, true, true, true, true, true, true, true, true, true, true, true, true, true, true, true, true, true, true, true, true, true, true, true, true, true, false, false, false, false, false, false, false] rfl rfl (by kernel_rfl) (fun _ _ _ h => h) (Or.inl ⟨by rfl, ?_⟩) ?_ ?_
          rotate_left
          · intro w'
            go_simp
            with_reducible rfl
          rotate_left
          · (try simp only [Act.put, List.setIfInBounds_toArray, List.set_cons_zero, List.set_cons_succ, i64_w, i32_w])
            rfl
          refine pure_ (i := 27) (N := some 93) (v := ?_) (a' := ?_) #[true, true, true, true, true, true, true, true, true, true, true, true, true, true, true, true, true, true, true, true, true, true, true, true, true, true, true, true, false, false, false, false, false, false] rfl rfl (by kernel_rfl) (fun _ _ _ h => h) (Or.inl ⟨by rfl, ?_⟩) ?_ ?_
          rotate_left
          · intro w'
            go_simp
            with_reducible rfl
          rotate_left
          · (try simp only [Act.put, List.setIfInBounds_toArray, List.set_cons_zero, List.set_cons_succ, i64_w, i32_w])
            rfl
          refine pure_ (i := 28) (N := some 94) (v := ?_) (a' := ?_) #[true, true, true, true, true, true, true, true, true, true, true, true, true, true, true, true, true, true, true, true, true, true, true, true, true, true, true, true, true, false, false, false, false, false] rfl rfl (by kernel_rfl) (fun _ _ _ h => h) (Or.inl ⟨by rfl, ?_⟩) ?_ ?_
          rotate_left
          · intro w'
            go_simp
            with_reducible rfl
          rotate_left
          · (try simp only [Act.put, List.setIfInBounds_toArray, List.set_cons_zero, List.set_cons_succ, i64_w, i32_w])
            rfl
          refine pure_ (i := 29) (N := some 95) (v := ?_) (a' := ?_) #[true, true, true, true, true, true, true, true, true, true, true, true, true, true, true, true, true, true, true, true, true, true, true, true, true, true, true, true, true, true, false, false, false, false] rfl rfl (by kernel_rfl) (fun _ _ _ h => h) (Or.inl ⟨by rfl, ?_⟩) ?_ ?_
          rotate_left
          · intro w'
            go_simp
            with_reducible rfl
          rotate_left
          · (try simp only [Act.put, List.setIfInBounds_toArray, List.set_cons_zero, List.set_cons_succ, i64_w, i32_w])
            rfl
          refine pure_ (i := 30) (N := some 96) (v := ?_) (a' := ?_) #[true, true, true, true, true, true, true, true, true, true, true, true, true, true, true, true, true, true, true, true, true, true, true, true, true, true, true, true, true, true, true, false, false, false] rfl rfl (by kernel_rfl) (fun _ _ _ h => h) (Or.inl ⟨by rfl, ?_⟩) ?_ ?_
          rotate_left
          · intro w'
            go_simp
            with_reducible rfl
          rotate_left
          · (try simp only [Act.put, List.setIfInBounds_toArray, List.set_cons_zero, List.set_cons_succ, i64_w, i32_w])
            rfl
          refine pure_ (i := 31) (N := some 97) (v := ?_) (a' := ?_) #[true, true, true, true, true, true, true, true, true, true, true, true, true, true, true, true, true, true, true, true, true, true, true, true, true, true, true, true, true, true, true, true, false, false] rfl rfl (by kernel_rfl) (fun _ _ _ h => h) (Or.inl ⟨by rfl, ?_⟩) ?_ ?_
          rotate_left
          · intro w'
            go_simp
            with_reducible rfl
          rotate_left
          · (try simp only [Act.put, List.setIfInBounds_toArray, List.set_cons_zero, List.set_cons_succ, i64_w, i32_w])
            rfl
          refine pure_ (i := 32) (N := some 98) (v := ?_) (a' := ?_) #[true, true, true, true, true, true, true, true, true, true, true, true, true, true, true, true, true, true, true, true, true, true, true, true, true, true, true, true, true, true, true, true, true, false] rfl rfl (by kernel_rfl) (fun _ _ _ h => h) (Or.inl ⟨by rfl, ?_⟩) ?_ ?_
          rotate_left
          · intro w'
            go_simp
            with_reducible rfl
          rotate_left
          · (try simp only [Act.put, List.setIfInBounds_toArray, List.set_cons_zero, List.set_cons_succ, i64_w, i32_w])
            rfl
          refine pure_ (i := 33) (N := some 99) (v := ?_) (a' := ?_) #[true, true, true, true, true, true, true, true, true, true, true, true, true, true, true, true, true, true, true, true, true, true, true, true, true, true, true, true, true, true, true, true, true, true] rfl rfl (by kernel_rfl) (fun _ _ _ h => h) (Or.inl ⟨by rfl, ?_⟩) ?_ ?_
          rotate_left
          · intro w'
            go_simp
            with_reducible rfl
          rotate_left
          · (try simp only [Act.put, List.setIfInBounds_toArray, List.set_cons_zero, List.set_cons_succ, i64_w, i32_w])
            rfl
          refine done_ (by kernel_rfl) ?_
          clear hHeld
          go_wp2
          go_loopg [102] (lm + 1) (fun kq v102 w' => ∃ (j : Nat), v102 = .int .i64 (j : Int) ∧ Aside0 (j ≤ lm ∧ lm + 1 ≤ kq + j) ∧ Aside0 (Sat W w' [blk g16 37 (stL S).toArray, row IW 2 (.slice V2 lm c2) M, mch g Am me.toNat cm (.slice Ac code.length cc) (.slice At (sitesF code 0).length ct) win (backF Q.1), row k60 60 (.slice (some ado) 1 co) [⟨6, 0, 0⟩], blk g13 37 (stL S).toArray, row IW 2 (.slice V1 lm c1) M, blk gd 44 #[.int .i64 d1, .int .i64 d2], row IW 3 (.slice At (sitesF code 0).length ct) (sitesF code 0), blk gb 25 #[.slice Ac code.length cc, .slice Aa arrs.length ca, .int .i64 st, .int .i64 me], old W]))
          case atStart => exact ⟨0, rfl, ⟨by omega, by omega⟩, ⟨HS⟩⟩
          case round =>
            clear HS
            obtain ⟨j, rfl, HJ2, HS'⟩ := hrel
            have HS := HS'.out
            clear HS'
            cases gk with
            | zero => have := HJ2.out; omega
            | succ k2 =>
              by_cases hj : j < lm
              · obtain ⟨J, hJ_⟩ : ∃ J : Int, (j : Int) = J := ⟨_, rfl⟩
                have t1 : 0 ≤ J := by omega
                have t2 : J < (lm : Int) := by omega
                have cj_ : decide (J < (lm : Int)) = true := decide_eq_true t2
                obtain ⟨a1, rfl, _⟩ := Kd.at_int (HS.C 5 rfl) J t1 t2
                obtain ⟨a2, rfl, _⟩ := Kd.at_int (HS.C 1 rfl) J t1 t2
                have hwj : wrap64 (J + 1) = J + 1 := w64 _ (by omega) (by have := HML.out; omega)
                rw [hJ_]
                have HJJ := Aside0.mk hJ_
                have HJL := Aside0.mk hj
                clear hJ_ hj
                have s1 := eq_true t1
                have s2 := eq_true t2
                have hbn : (rd M J != rd M J) = false := bne_self_eq_false _
                go_upto_region 21 with (fail)
                refine start_ (n := 9) (S := fun w' => Sat W w' [blk g16 37 (stL S).toArray, row IW 2 (.slice (some a2) lm c2) M, mch g Am me.toNat cm (.slice Ac code.length cc) (.slice At (sitesF code 0).length ct) win (backF Q.1), row k60 60 (.slice (some ado) 1 co) [⟨6, 0, 0⟩], blk g13 37 (stL S).toArray, row IW 2 (.slice (some a1) lm c1) M, blk gd 44 #[.int .i64 d1, .int .i64 d2], row IW 3 (.slice At (sitesF code 0).length ct) (sitesF code 0), blk gb 25 #[.slice Ac code.length cc, .slice Aa arrs.length ca, .int .i64 st, .int .i64 me], old W]) (ds := []) #[false, false, false, false, false, false, false, false, false] (by kernel_rfl) rfl rfl HS.drew (fun hHeld => ?_)
                replace HS := HS.drew
                generalize World.drew wr = w at HS hHeld ⊢
                refine pure_ (i := 0) (N := some 105) (v := ?_) (a' := ?_) #[true, false, false, false, false, false, false, false, false] rfl rfl (by kernel_rfl) (fun _ _ _ h => h) (Or.inl ⟨by rfl, ?_⟩) ?_ ?_
                rotate_left
                · intro w'
                  go_simp
                  with_reducible rfl
                rotate_left
                · (try simp only [Act.put, List.setIfInBounds_toArray, List.set_cons_zero, List.set_cons_succ, i64_w, i32_w])
                  rfl
                refine pure_ (i := 1) (N := some 106) (v := ?_) (a' := ?_) #[true, true, false, false, false, false, false, false, false] rfl rfl (by kernel_rfl) (fun _ _ _ h => h) (Or.inl ⟨by rfl, ?_⟩) ?_ ?_
                rotate_left
                · intro w'
                  go_simp
                  with_reducible rfl
                rotate_left
                · (try simp only [Act.put, List.setIfInBounds_toArray, List.set_cons_zero, List.set_cons_succ, i64_w, i32_w])
                  rfl
                refine pure_ (i := 2) (N := some 107) (v := ?_) (a' := ?_) #[true, true, true, false, false, false, false, false, false] rfl rfl (by kernel_rfl) (fun _ _ _ h => h) (Or.inl ⟨by rfl, ?_⟩) ?_ ?_
                rotate_left
                · intro w'
                  go_simp
                  with_reducible rfl
                rotate_left
                · (try simp only [Act.put, List.setIfInBounds_toArray, List.set_cons_zero, List.set_cons_succ, i64_w, i32_w])
                  rfl
                refine take_ (i := 3) (N := some 108) (v := ?_) (a' := ?_) #[true, true, true, true, false, false, false, false, false] rfl rfl (by kernel_rfl) (fun _ _ _ h => h) (Or.inl ⟨by rfl, ?_⟩) hHeld ?_ ?_
                rotate_left
                · rintro w' hS
                  obtain ⟨b1, e1, x1⟩ := Kd.at_int (hS.C 5 rfl) J t1 t2
                  cases e1
                  obtain ⟨b2, e2, x2⟩ := Kd.at_int (hS.C 1 rfl) J t1 t2
                  cases e2
                  go_simp
                  with_reducible rfl
                rotate_left
                · (try simp only [Act.put, List.setIfInBounds_toArray, List.set_cons_zero, List.set_cons_succ, i64_w, i32_w])
                  rfl
                refine pure_ (i := 4) (N := some 109) (v := ?_) (a' := ?_) #[true, true, true, true, true, false, false, false, false] rfl rfl (by kernel_rfl) (fun _ _ _ h => h) (Or.inl ⟨by rfl, ?_⟩) ?_ ?_
                rotate_left
                · intro w'
                  go_simp
                  with_reducible rfl
                rotate_left
                · (try simp only [Act.put, List.setIfInBounds_toArray, List.set_cons_zero, List.set_cons_succ, i64_w, i32_w])
                  rfl
                refine pure_ (i := 5) (N := some 110) (v := ?_) (a' := ?_) #[true, true, true, true, true, true, false, false, false] rfl rfl (by kernel_rfl) (fun _ _ _ h => h) (Or.inl ⟨by rfl, ?_⟩) ?_ ?_
                rotate_left
                · intro w'
                  go_simp
                  with_reducible rfl
                rotate_left
                · (try simp only [Act.put, List.setIfInBounds_toArray, List.set_cons_zero, List.set_cons_succ, i64_w, i32_w])
                  rfl
                refine pure_ (i := 6) (N := some 111) (v := ?_) (a' := ?_) #[true, true, true, true, true, true, true, false, false] rfl rfl (by kernel_rfl) (fun _ _ _ h => h) (Or.inl ⟨by rfl, ?_⟩) ?_ ?_
                rotate_left
                · intro w'
                  go_simp
                  with_reducible rfl
                rotate_left
                · (try simp only [Act.put, List.setIfInBounds_toArray, List.set_cons_zero, List.set_cons_succ, i64_w, i32_w])
                  rfl
                refine take_ (i := 7) (N := some 112) (v := ?_) (a' := ?_) #[true, true, true, true, true, true, true, true, false] rfl rfl (by kernel_rfl) (fun _ _ _ h => h) (Or.inl ⟨by rfl, ?_⟩) hHeld ?_ ?_
                rotate_left
                · rintro w' hS
                  obtain ⟨b1, e1, x1⟩ := Kd.at_int (hS.C 5 rfl) J t1 t2
                  cases e1
                  obtain ⟨b2, e2, x2⟩ := Kd.at_int (hS.C 1 rfl) J t1 t2
                  cases e2
                  go_simp
                  with_reducible rfl
                rotate_left
                · (try simp only [Act.put, List.setIfInBounds_toArray, List.set_cons_zero, List.set_cons_succ, i64_w, i32_w])
                  rfl
                refine pure_ (i := 8) (N := some 113) (v := ?_) (a' := ?_) #[true, true, true, true, true, true, true, true, true] rfl rfl (by kernel_rfl) (fun _ _ _ h => h) (Or.inl ⟨by rfl, ?_⟩) ?_ ?_
                rotate_left
                · intro w'
                  go_simp
                  with_reducible rfl
                rotate_left
                · (try simp only [Act.put, List.setIfInBounds_toArray, List.set_cons_zero, List.set_cons_succ, i64_w, i32_w])
                  rfl
                refine done_ (by kernel_rfl) ?_
                clear hHeld
                go_wp2
                go_roundg k2
                case measure => omega
                case rel => exact ⟨j + 1, by rw [← HJJ.out]; first | rfl | (rw [w64 ((j : Int) + 1) (by omega) (by have := HJ2.out; have := HML.out; omega)]; rfl), ⟨by have := HJL.out; omega, by have := HJ2.out; omega⟩, ⟨HS⟩⟩
              · have hjj : j = lm := by have := HJ2.out.1; omega
                subst hjj
                have hjb : decide (j < j) = false := decide_eq_false (Nat.lt_irrefl _)
                go_wp2
                go_roundg k1
                case measure => omega
                case rel =>
                  refine ⟨i + 1, backF Q.1, by rw [← HII.out]; first | rfl | (rw [w64 ((i : Int) + 1) (by omega) (by have := HIK.out; omega)]; rfl), ⟨by have := HIK.out; omega, by have := HJ.out; omega, HBI.out.le (by omega)⟩, ⟨(HS.tail.tail).pick [0, 5, 6, 7] (by decide)⟩⟩
      · have hkk : i = script.length := by have := HJ.out.1; omega
        subst hkk
        have hkb : decide (script.length < script.length) = false := decide_eq_false (Nat.lt_irrefl _)
        go_wp2
        go_ret
        exact ⟨rfl, HS.old 3 rfl⟩

end
theorem backs_walk {H : Type} {enc : TypeId × Value → H} {d0 d1 d3 : DataW H} {p0 p1 p3 : List MemPlace} (v0 v1 : Value) (a2 : Int) (v3 : Value) (W : World) (h0 : Arg enc Try.prog W 25 v0 d0 p0) (h1 : Arg enc Try.prog W 26 v1 d1 p1) (_ : (Lit.int .i64 a2).wf = true) (h3 : Arg enc Try.prog W 62 v3 d3 p3) :
    Calls Try.prog 8 #[v0, v1, .int .i64 a2, v3] W fun e w' => e = .returned (.bool true) ∧ Below W.heap.size W w' := by
  obtain ⟨Ac, cc, code, Aa, ca, arrs, st, mem, rfl, hcc, hca, hC, hA, _⟩ := open_img h0
  obtain ⟨Ai, ci, ins, rfl, hci, hI⟩ := open_rows h1
  obtain ⟨As, cs, script, rfl, _, hS⟩ := open_script h3
  obtain ⟨b, hb, hF⟩ := few_tells code arrs st mem ins
  cases b with
  | false => exact backs_few a2 W hC hcc hA hca hI hci hb
  | true =>
    by_cases hx : 100 < (script.length : Int)
    · exact backs_long a2 W hC hcc hA hca hI hci hb (decide_eq_true hx)
    · exact backs_main a2 W hC hcc hA hca hI hci hb (hF rfl) hS (decide_eq_false hx)
end Go.Proofs.Ytiafbpbbhgpjkaa.B
