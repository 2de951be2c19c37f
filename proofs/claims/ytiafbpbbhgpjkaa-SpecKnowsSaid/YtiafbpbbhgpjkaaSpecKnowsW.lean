/- SpecKnows: whatever deeds, what is known is what layer 19 comes to in so many steps. -/
import Derived.Test.YtiafbpbbhgpjkaaSpecAt
namespace Go.Proofs.Ytiafbpbbhgpjkaa.B
open Go.RowKit Go.Proofs.Ytiafbpbbhgpjkaa.Mine Go.Proofs.Ytiafbpbbhgpjkaa.Sep Go.Proofs.YtiafbpbbhgpjkaaW.PrintWords Go.Proofs.YtiafbpbbhgpjkaaW.PrintLast Go.Proofs.YtiafbpbbhgpjkaaW.PrintMore
set_option linter.unusedVariables false
set_option linter.unusedSimpArgs false
section
variable {Ac : Option Addr} {cc : Nat} {code : List S48} {Aa : Option Addr} {ca : Nat} {arrs : List S72} {st me : Int} {Ai : Option Addr} {ci : Nat} {ins : List (List Int)} {As : Option Addr} {cs : Nat} {script : List (Int × Int)}

set_option maxRecDepth 100000 in
set_option maxHeartbeats 1000000 in
theorem knows_few (a2 : Int) (W : World) (hC : Kd.C k48 W Ac code.length code) (hcc : code.length ≤ cc) (hA : Kd.C k72 W Aa arrs.length arrs) (hca : arrs.length ≤ ca) (hI : Kd.C (Kd.slice 2 (Kd.int .i64)) W Ai ins.length ins) (hci : ins.length ≤ ci) (hf : palingslaw19_Few.f 500 code arrs st me ins = some false) :
    Calls Try.prog 6 #[.agg #[.slice Ac code.length cc, .slice Aa arrs.length ca, .int .i64 st, .int .i64 me], .slice Ai ins.length ci, .int .i64 a2, .slice As script.length cs] W fun e W' => e = .returned (.bool true) ∧ Below W.heap.size W W' := by
  have HS := Sat.start W
  have HF := Aside0.mk hf
  clear hf
  go_enter Try.func6, Try.ntmps6
  go_upto_region 1 with ((with_reducible refine gate_dst (N := 4) rfl ?_); go_must (refine ev_box HS rfl (N := 4) rfl (cs := #[.slice Ac code.length cc, .slice Aa arrs.length ca, .int .i64 st, .int .i64 me]) (t := 25) ?hrun ?_); (case hrun => first | (go_simp; done) | (go_simp; rfl)); clear HS; intro gb w HS)
  go_upto_region 3 with (go_at_call 9; refine (head_calls HS).mono ?_; rintro e w_ ⟨rfl, HS_⟩; clear HS; have HS := HS_; clear HS_)
  have cb := HS.cell 0 rfl
  have hb0 := HS.old 1 rfl
  have HC := Aside0.mk (Kd.C_below hC hb0)
  have HA := Aside0.mk (Kd.C_below hA hb0)
  have HI := Aside0.mk (Kd.C_below hI hb0)
  clear hb0
  go_wp2_with (first | ((with_reducible refine gate_load (ty := 25) (p := 4) rfl ?_); go_must (refine ev_load HS 0 rfl rfl 25 (.tmp 4) rfl (N := 18) rfl rfl _ Try.underlying25 rfl (by kernel_rfl) ?_)) | (go_at_call 10; (with_reducible refine (palingslaw19_Few.calls 500 _ _ code _ _ arrs st me _ _ ins false _ HC.out hcc HA.out hca HI.out hci HF.out).mono ?_); rintro e w2 ⟨rfl, hb⟩; replace HS := HS.below hb; clear hb; have cb := HS.cell 0 rfl))
  go_ret
  exact ⟨rfl, HS.old 1 rfl⟩

set_option maxRecDepth 100000 in
set_option maxHeartbeats 1000000 in
theorem knows_long (a2 : Int) (W : World) (hC : Kd.C k48 W Ac code.length code) (hcc : code.length ≤ cc) (hA : Kd.C k72 W Aa arrs.length arrs) (hca : arrs.length ≤ ca) (hI : Kd.C (Kd.slice 2 (Kd.int .i64)) W Ai ins.length ins) (hci : ins.length ≤ ci) (hf : palingslaw19_Few.f 500 code arrs st me ins = some true) (hx : decide (150 < (script.length : Int)) = true) :
    Calls Try.prog 6 #[.agg #[.slice Ac code.length cc, .slice Aa arrs.length ca, .int .i64 st, .int .i64 me], .slice Ai ins.length ci, .int .i64 a2, .slice As script.length cs] W fun e W' => e = .returned (.bool true) ∧ Below W.heap.size W W' := by
  have HS := Sat.start W
  have HF := Aside0.mk hf
  clear hf
  go_enter Try.func6, Try.ntmps6
  go_upto_region 1 with ((with_reducible refine gate_dst (N := 4) rfl ?_); go_must (refine ev_box HS rfl (N := 4) rfl (cs := #[.slice Ac code.length cc, .slice Aa arrs.length ca, .int .i64 st, .int .i64 me]) (t := 25) ?hrun ?_); (case hrun => first | (go_simp; done) | (go_simp; rfl)); clear HS; intro gb w HS)
  go_upto_region 3 with (go_at_call 9; refine (head_calls HS).mono ?_; rintro e w_ ⟨rfl, HS_⟩; clear HS; have HS := HS_; clear HS_)
  have cb := HS.cell 0 rfl
  have hb0 := HS.old 1 rfl
  have HC := Aside0.mk (Kd.C_below hC hb0)
  have HA := Aside0.mk (Kd.C_below hA hb0)
  have HI := Aside0.mk (Kd.C_below hI hb0)
  clear hb0
  go_wp2_with (first | ((with_reducible refine gate_load (ty := 25) (p := 4) rfl ?_); go_must (refine ev_load HS 0 rfl rfl 25 (.tmp 4) rfl (N := 18) rfl rfl _ Try.underlying25 rfl (by kernel_rfl) ?_)) | (go_at_call 10; (with_reducible refine (palingslaw19_Few.calls 500 _ _ code _ _ arrs st me _ _ ins true _ HC.out hcc HA.out hca HI.out hci HF.out).mono ?_); rintro e w2 ⟨rfl, hb⟩; replace HS := HS.below hb; clear hb; have cb := HS.cell 0 rfl))
  go_ret
  exact ⟨rfl, HS.old 1 rfl⟩

set_option maxRecDepth 100000 in
set_option maxHeartbeats 1000000 in
theorem knows_main (a2 : Int) (W : World) (hC : Kd.C k48 W Ac code.length code) (hcc : code.length ≤ cc) (hA : Kd.C k72 W Aa arrs.length arrs) (hca : arrs.length ≤ ca) (hI : Kd.C (Kd.slice 2 (Kd.int .i64)) W Ai ins.length ins) (hci : ins.length ≤ ci) (hf : palingslaw19_Few.f 500 code arrs st me ins = some true) (hF : Fews code arrs st me ins) (hScr : Kd.C kDeed W As script.length script) (hx : decide (150 < (script.length : Int)) = false) :
    Calls Try.prog 6 #[.agg #[.slice Ac code.length cc, .slice Aa arrs.length ca, .int .i64 st, .int .i64 me], .slice Ai ins.length ci, .int .i64 a2, .slice As script.length cs] W fun e W' => e = .returned (.bool true) ∧ Below W.heap.size W W' := by
  have HS := Sat.start W
  have HF := Aside0.mk hf
  clear hf
  have hsl : script.length ≤ 150 := by have := of_decide_eq_false hx; omega
  obtain ⟨B, hB⟩ : ∃ B, B = Go.bits .and .i64 a2 15 := ⟨_, rfl⟩
  have hB0 : 0 ≤ B := by rw [hB, and15]; omega
  have hB1 : B ≤ 15 := by rw [hB, and15]; omega
  have hbits : Go.bits .and .i64 a2 15 = B := hB.symm
  obtain ⟨win, hwin⟩ : ∃ win, 1 + B = win := ⟨_, rfl⟩
  have hw : wrap64 win = win := w64 _ (by omega) (by omega)
  have hw0 : 1 ≤ win := by omega
  have hw1 : win ≤ 1000 := by omega
  clear hB
  have HFI := Aside0.mk (fine_of (ins := ins) hF.right)
  go_enter Try.func6, Try.ntmps6
  go_upto_region 1 with ((with_reducible refine gate_dst (N := 4) rfl ?_); go_must (refine ev_box HS rfl (N := 4) rfl (cs := #[.slice Ac code.length cc, .slice Aa arrs.length ca, .int .i64 st, .int .i64 me]) (t := 25) ?hrun ?_); (case hrun => first | (go_simp; done) | (go_simp; rfl)); clear HS; intro gb w HS)
  go_upto_region 3 with (go_at_call 9; refine (head_calls HS).mono ?_; rintro e w_ ⟨rfl, HS_⟩; clear HS; have HS := HS_; clear HS_)
  have cb := HS.cell 0 rfl
  have hb0 := HS.old 1 rfl
  have HC := Aside0.mk (Kd.C_below hC hb0)
  have HA := Aside0.mk (Kd.C_below hA hb0)
  have HI := Aside0.mk (Kd.C_below hI hb0)
  clear hb0
  go_upto_region 5 with (first | ((with_reducible refine gate_load (ty := 25) (p := 4) rfl ?_); go_must (refine ev_load HS 0 rfl rfl 25 (.tmp 4) rfl (N := 18) rfl rfl _ Try.underlying25 rfl (by kernel_rfl) ?_)) | (go_at_call 10; (with_reducible refine (palingslaw19_Few.calls 500 _ _ code _ _ arrs st me _ _ ins true _ HC.out hcc HA.out hca HI.out hci HF.out).mono ?_); rintro e w2 ⟨rfl, hb⟩; replace HS := HS.below hb; clear hb; have cb := HS.cell 0 rfl))
  clear HC HA HI
  go_upto_region 7 with (first | ((with_reducible refine gate_load (ty := 25) (p := 4) rfl ?_); go_must (refine ev_load HS 0 rfl rfl 25 (.tmp 4) rfl (N := 31) rfl rfl _ Try.underlying25 rfl (by kernel_rfl) ?_)) | (go_at_call 11; refine (new_calls (fun w h => Kd.C_below hC (h.old 1 rfl)) hcc (fun w h => Kd.C_below hA (h.old 1 rfl)) hca (fun w h => Kd.C_below hI (h.old 1 rfl)) (Aside0.mk HFI.out.right.choose_spec) HFI.out.lies HFI.out.al HFI.out.m0 HFI.out.m1 HFI.out.cl hw0 hw1 HS).mono ?_; rintro e w_ ⟨g, Am, cm, At, ct, rfl, HS_⟩; clear HS; have HS := HS_; clear HS_))
  clear cb
  replace HS : Sat W w_ [mch g Am me.toNat cm (.slice Ac code.length cc) (.slice At (sitesF code 0).length ct) win (runM code (sitesF code 0) win (newX st me arrs ins) (script.take 0)).1, row IW 3 (.slice At (sitesF code 0).length ct) (sitesF code 0), blk gb 25 #[.slice Ac code.length cc, .slice Aa arrs.length ca, .int .i64 st, .int .i64 me], old W] := HS
  go_wp2
  go_loopg [11, 41] (script.length + 1) (fun kq v11 v41 w' => ∃ (i : Nat), v11 = .int .i64 (kwnS (runM code (sitesF code 0) win (newX st me arrs ins) (script.take i)).1).steps ∧ v41 = .int .i64 (i : Int) ∧ Aside0 (i ≤ script.length ∧ script.length + 1 ≤ kq + i) ∧
      Aside0 (Sat W w' [mch g Am me.toNat cm (.slice Ac code.length cc) (.slice At (sitesF code 0).length ct) win (runM code (sitesF code 0) win (newX st me arrs ins) (script.take i)).1, row IW 3 (.slice At (sitesF code 0).length ct) (sitesF code 0), blk gb 25 #[.slice Ac code.length cc, .slice Aa arrs.length ca, .int .i64 st, .int .i64 me], old W]))
  case atStart => exact ⟨0, rfl, rfl, ⟨by omega, by omega⟩, ⟨HS⟩⟩
  case round =>
    clear HS
    obtain ⟨i, rfl, rfl, HJ, HS'⟩ := hrel
    have HS := HS'.out
    clear HS'
    cases gk with
    | zero => have := HJ.out; omega
    | succ k1 =>
      by_cases hk : i < script.length
      · obtain ⟨I, hI_⟩ : ∃ I : Int, (i : Int) = I := ⟨_, rfl⟩
        have p1 : 0 ≤ I := by omega
        have q1 : I < (script.length : Int) := by omega
        have c1_ : decide (I < (script.length : Int)) = true := decide_eq_true q1
        obtain ⟨ad, rfl, x0, x1⟩ := at_D (Kd.C_below hScr (HS.old 3 rfl)) I p1 q1
        have hrd : rd_D script I = script[i] := by rw [← hI_]; unfold rd_D; rw [Int.toNat_natCast, List.getD_eq_getElem?_getD, List.getElem?_eq_getElem hk]; rfl
        obtain ⟨d, hd⟩ : ∃ d, d = rd_D script I := ⟨_, rfl⟩
        have HT := Aside0.mk (show (runM code (sitesF code 0) win (newX st me arrs ins) (script.take (i + 1))).1 = (doM code (sitesF code 0) win (runM code (sitesF code 0) win (newX st me arrs ins) (script.take i)).1 d.1 d.2).1 from by
          rw [List.take_succ_eq_append_getElem hk, ← hrd, ← hd, runM_snoc])
        have hinv := runM_good code (sitesF code 0) win (beginS st, startF ins arrs me) (script.take i) (newX st me arrs ins) 0 (new_inv code st me arrs ins) (by rw [List.length_take]; omega)
        rw [List.length_take, Nat.min_eq_left (by omega), Nat.zero_add] at hinv
        have hgood := doM_good hinv (by omega) (sitesF code 0) win d.1 d.2
        obtain ⟨X, hX⟩ : ∃ X, X = (runM code (sitesF code 0) win (newX st me arrs ins) (script.take i)).1 := ⟨_, rfl⟩
        rw [← hX] at HT hinv hgood HS ⊢
        obtain ⟨Q, hQ⟩ : ∃ Q, Q = doM code (sitesF code 0) win X d.1 d.2 := ⟨_, rfl⟩
        rw [← hQ] at HT hgood
        have HIV := Aside0.mk (And.intro hinv hgood)
        rw [← hd] at x0 x1
        rw [hI_]
        have HII := Aside0.mk hI_
        have hwi : wrap64 (I + 1) = I + 1 := w64 _ (by omega) (by omega)
        have HIK := Aside0.mk (show i < script.length ∧ i ≤ 200 from ⟨hk, by omega⟩)
        have HXX := Aside0.mk hX
        clear hd hrd hI_ hk hinv hgood hX
        have r1 := eq_true p1
        have r2 := eq_true q1
        obtain ⟨d1, d2⟩ := d
        dsimp only at x0 x1
        have HQQ := Aside0.mk hQ
        clear hQ
        go_upto_region 13 with (first | ((with_reducible refine gate_dst (N := 13) rfl ?_); go_must (refine ev_box HS rfl (N := 13) rfl (cs := #[.int .i64 0, .int .i64 0]) (t := 44) ?hrun ?_); (case hrun => first | (go_simp; done) | (go_simp; rfl)); clear HS; intro gd w HS) | ((with_reducible refine gate_store (t := 44) (p := 13) rfl ?_); go_must (refine ev_store HS 0 rfl rfl 44 (.tmp 13) (.tmp 44) rfl rfl rfl [.int .i64 d1, .int .i64 d2] ?hx (by kernel_rfl) (by rfl) ?h1 ?_); (case hx => first | rfl | (go_simp; done)); (case h1 => simp [Value.oneCell']); clear HS; intro w HS))
        replace HS := HS.swap
        have HDD := Aside0.mk (show Calls Try.prog 15 #[.pointer (some ⟨g, 0, none⟩), .agg #[.int .i64 d1, .int .i64 d2]] w (fun e w' => ∃ v, e = .returned v ∧ Sat W w' (row k60 60 v Q.2 :: mch g Am me.toNat cm (.slice Ac code.length cc) (.slice At (sitesF code 0).length ct) win Q.1 :: _)) from by
          rw [HQQ.out]
          exact deed_calls (sites := (sitesF code 0)) (deed := d1) (tq := d2) (X := X) (fun w h => Kd.C_below hC (h.old 3 rfl)) (fun w h => h.C 1 rfl) HFI.out.fit (by have := sitesF_len code 0; have := HFI.out.cl; omega) (by have := HIV.out.1.cnt; have := HIK.out; omega) (by have := HIV.out.1.len; have := HIK.out; omega) HS)
        go_upto_region 14 with (first | ((with_reducible refine gate_load (ty := 44) (p := 13) rfl ?_); go_must (refine ev_load HS 1 rfl rfl 44 (.tmp 13) rfl (N := 46) rfl rfl _ Try.underlying44 rfl (by kernel_rfl) ?_)) | (go_at_call 15; refine HDD.out.mono ?_; rintro e w_ ⟨v, rfl, HS_⟩; clear HS HDD; have HS := HS_.tail; clear HS_))
        have HKN := Aside0.mk (knows_calls (ci := ci) (N := i + 1) (X := Q.1) ⟨fun w h => Kd.C_below hC (h.old 3 rfl), hcc, fun w h => Kd.C_below hA (h.old 3 rfl), hca, fun w h => Kd.C_below hI (h.old 3 rfl)⟩ HFI.out HIV.out.2.1 (by have := HIK.out; omega) HS)
        go_upto_region 16 with (first | ((with_reducible refine gate_load (ty := 25) (p := 4) rfl ?_); go_must (refine ev_load HS 3 rfl rfl 25 (.tmp 4) rfl (N := 48) rfl rfl _ Try.underlying25 rfl (by kernel_rfl) ?_)) | (go_at_call 19; refine HKN.out.mono ?_; rintro e w_ ⟨rfl, HS_⟩; clear HS HKN; have HS := HS_; clear HS_))
        have hml : Q.1.mem.length ≤ 1048576 := by
          rw [HIV.out.2.1.mem]
          show (startF ins arrs me).length ≤ 1048576
          unfold startF
          rw [startL_length, List.length_replicate]
          have := HFI.out.m1
          omega
        have hkl : (kwnB Q.1).length ≤ 1000000 := by
          have := HIK.out
          unfold kwnB
          cases hs : Q.1.saved with
          | none => have := HIV.out.2.1.len; dsimp only; omega
          | some q => have := (HIV.out.2.1.sav q hs).2.2.1; dsimp only; omega
        have hs : (kwnS Q.1).regs.length = 64 := by
          unfold kwnS
          cases hs : Q.1.saved with
          | none => exact HIV.out.2.1.regs
          | some q => exact (HIV.out.2.1.sav q hs).1
        have HKC := Aside0.mk (known_calls hml (by have := HIV.out.2.1.len; have := HIK.out; omega) hkl HS)
        have hmono := HIV.out.2.2
        have hst : Q.1.saved.isSome = true → (kwnS Q.1).steps ≤ Q.1.s.steps := fun h => by
          obtain ⟨q, hq⟩ := Option.isSome_iff_exists.1 h
          unfold kwnS
          rw [hq]
          exact (HIV.out.2.1.sav q hq).2.2.2.2
        obtain ⟨S, hS⟩ : ∃ S, S = kwnS Q.1 := ⟨_, rfl⟩
        obtain ⟨M, hM⟩ : ∃ M, M = kwnM Q.1 := ⟨_, rfl⟩
        rw [← hS] at hs HKC hmono hst
        rw [← hM] at HKC
        have HSS := Aside0.mk hS
        have hwas : decide (S.steps < (kwnS X).steps) = false := decide_eq_false (by omega)
        clear hS hM hml hkl hmono
        go_upto_region 17 with (first | (go_at_call 20; refine HKC.out.mono ?_; rintro e w_ ⟨v, rfl, HS_⟩; clear HS HKC; have HS := HS_; clear HS_; obtain ⟨Vm, cv, rfl⟩ := HS.slice 0 rfl) | ((with_reducible refine gate_dst (N := 14) rfl ?_); go_must (refine ev_box HS rfl (N := 14) rfl (cs := (stL z0).toArray) (t := 37) ?hrun ?_); (case hrun => first | (go_simp; done) | (go_simp; rfl)); clear HS; intro g14 w HS) | ((with_reducible refine gate_store (t := 37) (p := 14) rfl ?_); go_must (refine ev_store HS 0 rfl rfl 37 (.tmp 14) (.tmp 56) rfl rfl rfl (stL S) rfl (len32 hs) (by rw [stL_length hs]; rfl) (stL_one _) ?_); clear HS; intro w HS))
        replace HS : Sat W w [blk g14 37 (stL S).toArray, row IW 2 (.slice Vm M.length cv) M, mch g Am me.toNat cm (.slice Ac code.length cc) (.slice At (sitesF code 0).length ct) win Q.1, blk gd 44 #[.int .i64 d1, .int .i64 d2], row IW 3 (.slice At (sitesF code 0).length ct) (sitesF code 0), blk gb 25 #[.slice Ac code.length cc, .slice Aa arrs.length ca, .int .i64 st, .int .i64 me], old W] := HS
        cases hg : Q.1.saved.isSome with
        | true =>
          have hxs : decide (Q.1.s.steps < S.steps) = false := decide_eq_false (by have := hst hg; omega)
          clear hst
          refine start_ (n := 18) (S := fun w' => Sat W w' [blk g14 37 (stL S).toArray, row IW 2 (.slice Vm M.length cv) M, mch g Am me.toNat cm (.slice Ac code.length cc) (.slice At (sitesF code 0).length ct) win Q.1, blk gd 44 #[.int .i64 d1, .int .i64 d2], row IW 3 (.slice At (sitesF code 0).length ct) (sitesF code 0), blk gb 25 #[.slice Ac code.length cc, .slice Aa arrs.length ca, .int .i64 st, .int .i64 me], old W]) (ds := []) #[false, false, false, false, false, false, false, false, false, false, false, false, false, false, false, false, false, false] (by kernel_rfl) rfl rfl HS.drew (fun hHeld => ?_)
          replace HS := HS.drew
          generalize World.drew w = w at HS hHeld ⊢
          refine pure_ (i := 0) (N := some 58) (v := ?_) (a' := ?_) #[true, false, false, false, false, false, false, false, false, false, false, false, false, false, false, false, false, false] rfl rfl (by kernel_rfl) (fun _ _ _ h => h) (Or.inl ⟨by rfl, ?_⟩) ?_ ?_
          rotate_left
          · intro w'
            go_simp
            with_reducible rfl
          rotate_left
          · (try simp only [Act.put, List.setIfInBounds_toArray, List.set_cons_zero, List.set_cons_succ, i64_w, i32_w])
            rfl
          refine take_ (i := 1) (N := some 59) (v := ?_) (a' := ?_) #[true, true, false, false, false, false, false, false, false, false, false, false, false, false, false, false, false, false] rfl rfl (by kernel_rfl) (fun _ _ _ h => h) (Or.inl ⟨by rfl, ?_⟩) hHeld ?_ ?_
          rotate_left
          · rintro w' hS
            have c68 : w'.cell? ⟨g14, 68, none⟩ = some (.int .i64 S.steps) := (st_cell hS 0 rfl 68).trans (stL_steps hs)
            have HM := mchC hS 2 rfl
            have x68 := (HM.2.1 68 (by decide)).trans (stL_steps HM.1)
            clear HM
            go_simp
            with_reducible rfl
          rotate_left
          · (try simp only [Act.put, List.setIfInBounds_toArray, List.set_cons_zero, List.set_cons_succ, i64_w, i32_w])
            rfl
          refine pure_ (i := 2) (N := some 60) (v := ?_) (a' := ?_) #[true, true, true, false, false, false, false, false, false, false, false, false, false, false, false, false, false, false] rfl rfl (by kernel_rfl) (fun _ _ _ h => h) (Or.inl ⟨by rfl, ?_⟩) ?_ ?_
          rotate_left
          · intro w'
            go_simp
            with_reducible rfl
          rotate_left
          · (try simp only [Act.put, List.setIfInBounds_toArray, List.set_cons_zero, List.set_cons_succ, i64_w, i32_w])
            rfl
          refine pure_ (i := 3) (N := some 61) (v := ?_) (a' := ?_) #[true, true, true, true, false, false, false, false, false, false, false, false, false, false, false, false, false, false] rfl rfl (by kernel_rfl) (fun _ _ _ h => h) (Or.inl ⟨by rfl, ?_⟩) ?_ ?_
          rotate_left
          · intro w'
            go_simp
            with_reducible rfl
          rotate_left
          · (try simp only [Act.put, List.setIfInBounds_toArray, List.set_cons_zero, List.set_cons_succ, i64_w, i32_w])
            rfl
          refine pure_ (i := 4) (N := some 62) (v := ?_) (a' := ?_) #[true, true, true, true, true, false, false, false, false, false, false, false, false, false, false, false, false, false] rfl rfl (by kernel_rfl) (fun _ _ _ h => h) (Or.inl ⟨by rfl, ?_⟩) ?_ ?_
          rotate_left
          · intro w'
            go_simp
            with_reducible rfl
          rotate_left
          · (try simp only [Act.put, List.setIfInBounds_toArray, List.set_cons_zero, List.set_cons_succ, i64_w, i32_w])
            rfl
          refine pure_ (i := 5) (N := some 63) (v := ?_) (a' := ?_) #[true, true, true, true, true, true, false, false, false, false, false, false, false, false, false, false, false, false] rfl rfl (by kernel_rfl) (fun _ _ _ h => h) (Or.inl ⟨by rfl, ?_⟩) ?_ ?_
          rotate_left
          · intro w'
            go_simp
            with_reducible rfl
          rotate_left
          · (try simp only [Act.put, List.setIfInBounds_toArray, List.set_cons_zero, List.set_cons_succ, i64_w, i32_w])
            rfl
          refine one_ (i := 6) (N := some 64) #[true, true, true, true, true, true, true, false, false, false, false, false, false, false, false, false, false, false] rfl rfl (by kernel_rfl) (by decide) (fun K hK => ?_)
          refine goes_ Try.func17 (by kernel_rfl) rfl #[.pointer (some ⟨g, 0, none⟩)] (by rfl) rfl rfl (by (try simp only [List.map_toArray, List.map_cons, List.map_nil]); first | done | rfl) ?_
          refine (guesses_at (by have := HIV.out.2.1.cnt; have := HIK.out; omega) 2 rfl HS).mono ?_
          rw [hg]
          clear HS
          rintro e w ⟨rfl, HS⟩
          refine ⟨_, rfl, ?_⟩
          refine hK.out _ _ HS (fun hHeld => ?_)
          clear hK K
          refine norm_ (a' := ?_) ?_ ?_
          rotate_left
          · show Act.put _ _ _ = _
            (try simp only [Act.put, List.setIfInBounds_toArray, List.set_cons_zero, List.set_cons_succ, i64_w, i32_w])
            rfl
          refine pure_ (i := 7) (N := some 65) (v := ?_) (a' := ?_) #[true, true, true, true, true, true, true, true, false, false, false, false, false, false, false, false, false, false] rfl rfl (by kernel_rfl) (fun _ _ _ h => h) (Or.inl ⟨by rfl, ?_⟩) ?_ ?_
          rotate_left
          · intro w'
            go_simp
            with_reducible rfl
          rotate_left
          · (try simp only [Act.put, List.setIfInBounds_toArray, List.set_cons_zero, List.set_cons_succ, i64_w, i32_w])
            rfl
          refine pure_ (i := 8) (N := some 66) (v := ?_) (a' := ?_) #[true, true, true, true, true, true, true, true, true, false, false, false, false, false, false, false, false, false] rfl rfl (by kernel_rfl) (fun _ _ _ h => h) (Or.inl ⟨by rfl, ?_⟩) ?_ ?_
          rotate_left
          · intro w'
            go_simp
            with_reducible rfl
          rotate_left
          · (try simp only [Act.put, List.setIfInBounds_toArray, List.set_cons_zero, List.set_cons_succ, i64_w, i32_w])
            rfl
          refine pure_ (i := 9) (N := some 67) (v := ?_) (a' := ?_) #[true, true, true, true, true, true, true, true, true, true, false, false, false, false, false, false, false, false] rfl rfl (by kernel_rfl) (fun _ _ _ h => h) (Or.inl ⟨by rfl, ?_⟩) ?_ ?_
          rotate_left
          · intro w'
            go_simp
            with_reducible rfl
          rotate_left
          · (try simp only [Act.put, List.setIfInBounds_toArray, List.set_cons_zero, List.set_cons_succ, i64_w, i32_w])
            rfl
          refine pure_ (i := 10) (N := some 68) (v := ?_) (a' := ?_) #[true, true, true, true, true, true, true, true, true, true, true, false, false, false, false, false, false, false] rfl rfl (by kernel_rfl) (fun _ _ _ h => h) (Or.inl ⟨by rfl, ?_⟩) ?_ ?_
          rotate_left
          · intro w'
            go_simp
            with_reducible rfl
          rotate_left
          · (try simp only [Act.put, List.setIfInBounds_toArray, List.set_cons_zero, List.set_cons_succ, i64_w, i32_w])
            rfl
          refine pure_ (i := 11) (N := some 69) (v := ?_) (a' := ?_) #[true, true, true, true, true, true, true, true, true, true, true, true, false, false, false, false, false, false] rfl rfl (by kernel_rfl) (fun _ _ _ h => h) (Or.inl ⟨by rfl, ?_⟩) ?_ ?_
          rotate_left
          · intro w'
            go_simp
            with_reducible rfl
          rotate_left
          · (try simp only [Act.put, List.setIfInBounds_toArray, List.set_cons_zero, List.set_cons_succ, i64_w, i32_w])
            rfl
          refine take_ (i := 12) (N := some 70) (v := ?_) (a' := ?_) #[true, true, true, true, true, true, true, true, true, true, true, true, true, false, false, false, false, false] rfl rfl (by kernel_rfl) (fun _ _ _ h => h) (Or.inl ⟨by rfl, ?_⟩) hHeld ?_ ?_
          rotate_left
          · rintro w' hS
            have c68 : w'.cell? ⟨g14, 68, none⟩ = some (.int .i64 S.steps) := (st_cell hS 0 rfl 68).trans (stL_steps hs)
            have HM := mchC hS 2 rfl
            have x68 := (HM.2.1 68 (by decide)).trans (stL_steps HM.1)
            clear HM
            go_simp
            with_reducible rfl
          rotate_left
          · (try simp only [Act.put, List.setIfInBounds_toArray, List.set_cons_zero, List.set_cons_succ, i64_w, i32_w])
            rfl
          refine pure_ (i := 13) (N := some 71) (v := ?_) (a' := ?_) #[true, true, true, true, true, true, true, true, true, true, true, true, true, true, false, false, false, false] rfl rfl (by kernel_rfl) (fun _ _ _ h => h) (Or.inl ⟨by rfl, ?_⟩) ?_ ?_
          rotate_left
          · intro w'
            go_simp
            with_reducible rfl
          rotate_left
          · (try simp only [Act.put, List.setIfInBounds_toArray, List.set_cons_zero, List.set_cons_succ, i64_w, i32_w])
            rfl
          refine take_ (i := 14) (N := some 72) (v := ?_) (a' := ?_) #[true, true, true, true, true, true, true, true, true, true, true, true, true, true, true, false, false, false] rfl rfl (by kernel_rfl) (fun _ _ _ h => h) (Or.inl ⟨by rfl, ?_⟩) hHeld ?_ ?_
          rotate_left
          · rintro w' hS
            have c68 : w'.cell? ⟨g14, 68, none⟩ = some (.int .i64 S.steps) := (st_cell hS 0 rfl 68).trans (stL_steps hs)
            have HM := mchC hS 2 rfl
            have x68 := (HM.2.1 68 (by decide)).trans (stL_steps HM.1)
            clear HM
            go_simp
            with_reducible rfl
          rotate_left
          · (try simp only [Act.put, List.setIfInBounds_toArray, List.set_cons_zero, List.set_cons_succ, i64_w, i32_w])
            rfl
          refine pure_ (i := 15) (N := some 73) (v := ?_) (a' := ?_) #[true, true, true, true, true, true, true, true, true, true, true, true, true, true, true, true, false, false] rfl rfl (by kernel_rfl) (fun _ _ _ h => h) (Or.inl ⟨by rfl, ?_⟩) ?_ ?_
          rotate_left
          · intro w'
            go_simp
            with_reducible rfl
          rotate_left
          · (try simp only [Act.put, List.setIfInBounds_toArray, List.set_cons_zero, List.set_cons_succ, i64_w, i32_w])
            rfl
          refine pure_ (i := 16) (N := some 74) (v := ?_) (a' := ?_) #[true, true, true, true, true, true, true, true, true, true, true, true, true, true, true, true, true, false] rfl rfl (by kernel_rfl) (fun _ _ _ h => h) (Or.inl ⟨by rfl, ?_⟩) ?_ ?_
          rotate_left
          · intro w'
            go_simp
            with_reducible rfl
          rotate_left
          · (try simp only [Act.put, List.setIfInBounds_toArray, List.set_cons_zero, List.set_cons_succ, i64_w, i32_w])
            rfl
          refine pure_ (i := 17) (N := some 75) (v := ?_) (a' := ?_) #[true, true, true, true, true, true, true, true, true, true, true, true, true, true, true, true, true, true] rfl rfl (by kernel_rfl) (fun _ _ _ h => h) (Or.inl ⟨by rfl, ?_⟩) ?_ ?_
          rotate_left
          · intro w'
            go_simp
            with_reducible rfl
          rotate_left
          · (try simp only [Act.put, List.setIfInBounds_toArray, List.set_cons_zero, List.set_cons_succ, i64_w, i32_w])
            rfl
          refine done_ (by kernel_rfl) ?_
          clear hHeld
          clear hwas
          have c68 : w.cell? ⟨g14, 68, none⟩ = some (.int .i64 S.steps) := (st_cell HS 0 rfl 68).trans (stL_steps hs)
          go_wp2
          go_roundg k1
          case measure => omega
          case rel =>
            refine ⟨i + 1, ?_, by rw [← HII.out]; first | rfl | (rw [w64 ((i : Int) + 1) (by omega) (by have := HIK.out; omega)]; rfl), ⟨by have := HIK.out; omega, by have := HJ.out; omega⟩, ⟨?_⟩⟩
            · rw [HT.out, ← HSS.out]
            · rw [HT.out]; exact (HS.tail.tail).erase 1
        | false =>
          clear hst
          refine start_ (n := 18) (S := fun w' => Sat W w' [blk g14 37 (stL S).toArray, row IW 2 (.slice Vm M.length cv) M, mch g Am me.toNat cm (.slice Ac code.length cc) (.slice At (sitesF code 0).length ct) win Q.1, blk gd 44 #[.int .i64 d1, .int .i64 d2], row IW 3 (.slice At (sitesF code 0).length ct) (sitesF code 0), blk gb 25 #[.slice Ac code.length cc, .slice Aa arrs.length ca, .int .i64 st, .int .i64 me], old W]) (ds := []) #[false, false, false, false, false, false, false, false, false, false, false, false, false, false, false, false, false, false] (by kernel_rfl) rfl rfl HS.drew (fun hHeld => ?_)
          replace HS := HS.drew
          generalize World.drew w = w at HS hHeld ⊢
          refine pure_ (i := 0) (N := some 58) (v := ?_) (a' := ?_) #[true, false, false, false, false, false, false, false, false, false, false, false, false, false, false, false, false, false] rfl rfl (by kernel_rfl) (fun _ _ _ h => h) (Or.inl ⟨by rfl, ?_⟩) ?_ ?_
          rotate_left
          · intro w'
            go_simp
            with_reducible rfl
          rotate_left
          · (try simp only [Act.put, List.setIfInBounds_toArray, List.set_cons_zero, List.set_cons_succ, i64_w, i32_w])
            rfl
          refine take_ (i := 1) (N := some 59) (v := ?_) (a' := ?_) #[true, true, false, false, false, false, false, false, false, false, false, false, false, false, false, false, false, false] rfl rfl (by kernel_rfl) (fun _ _ _ h => h) (Or.inl ⟨by rfl, ?_⟩) hHeld ?_ ?_
          rotate_left
          · rintro w' hS
            have c68 : w'.cell? ⟨g14, 68, none⟩ = some (.int .i64 S.steps) := (st_cell hS 0 rfl 68).trans (stL_steps hs)
            have HM := mchC hS 2 rfl
            have x68 := (HM.2.1 68 (by decide)).trans (stL_steps HM.1)
            clear HM
            go_simp
            with_reducible rfl
          rotate_left
          · (try simp only [Act.put, List.setIfInBounds_toArray, List.set_cons_zero, List.set_cons_succ, i64_w, i32_w])
            rfl
          refine pure_ (i := 2) (N := some 60) (v := ?_) (a' := ?_) #[true, true, true, false, false, false, false, false, false, false, false, false, false, false, false, false, false, false] rfl rfl (by kernel_rfl) (fun _ _ _ h => h) (Or.inl ⟨by rfl, ?_⟩) ?_ ?_
          rotate_left
          · intro w'
            go_simp
            with_reducible rfl
          rotate_left
          · (try simp only [Act.put, List.setIfInBounds_toArray, List.set_cons_zero, List.set_cons_succ, i64_w, i32_w])
            rfl
          refine pure_ (i := 3) (N := some 61) (v := ?_) (a' := ?_) #[true, true, true, true, false, false, false, false, false, false, false, false, false, false, false, false, false, false] rfl rfl (by kernel_rfl) (fun _ _ _ h => h) (Or.inl ⟨by rfl, ?_⟩) ?_ ?_
          rotate_left
          · intro w'
            go_simp
            with_reducible rfl
          rotate_left
          · (try simp only [Act.put, List.setIfInBounds_toArray, List.set_cons_zero, List.set_cons_succ, i64_w, i32_w])
            rfl
          refine pure_ (i := 4) (N := some 62) (v := ?_) (a' := ?_) #[true, true, true, true, true, false, false, false, false, false, false, false, false, false, false, false, false, false] rfl rfl (by kernel_rfl) (fun _ _ _ h => h) (Or.inl ⟨by rfl, ?_⟩) ?_ ?_
          rotate_left
          · intro w'
            go_simp
            with_reducible rfl
          rotate_left
          · (try simp only [Act.put, List.setIfInBounds_toArray, List.set_cons_zero, List.set_cons_succ, i64_w, i32_w])
            rfl
          refine pure_ (i := 5) (N := some 63) (v := ?_) (a' := ?_) #[true, true, true, true, true, true, false, false, false, false, false, false, false, false, false, false, false, false] rfl rfl (by kernel_rfl) (fun _ _ _ h => h) (Or.inl ⟨by rfl, ?_⟩) ?_ ?_
          rotate_left
          · intro w'
            go_simp
            with_reducible rfl
          rotate_left
          · (try simp only [Act.put, List.setIfInBounds_toArray, List.set_cons_zero, List.set_cons_succ, i64_w, i32_w])
            rfl
          refine one_ (i := 6) (N := some 64) #[true, true, true, true, true, true, true, false, false, false, false, false, false, false, false, false, false, false] rfl rfl (by kernel_rfl) (by decide) (fun K hK => ?_)
          refine goes_ Try.func17 (by kernel_rfl) rfl #[.pointer (some ⟨g, 0, none⟩)] (by rfl) rfl rfl (by (try simp only [List.map_toArray, List.map_cons, List.map_nil]); first | done | rfl) ?_
          refine (guesses_at (by have := HIV.out.2.1.cnt; have := HIK.out; omega) 2 rfl HS).mono ?_
          rw [hg]
          clear HS
          rintro e w ⟨rfl, HS⟩
          refine ⟨_, rfl, ?_⟩
          refine hK.out _ _ HS (fun hHeld => ?_)
          clear hK K
          refine norm_ (a' := ?_) ?_ ?_
          rotate_left
          · show Act.put _ _ _ = _
            (try simp only [Act.put, List.setIfInBounds_toArray, List.set_cons_zero, List.set_cons_succ, i64_w, i32_w])
            rfl
          refine pure_ (i := 7) (N := some 65) (v := ?_) (a' := ?_) #[true, true, true, true, true, true, true, true, false, false, false, false, false, false, false, false, false, false] rfl rfl (by kernel_rfl) (fun _ _ _ h => h) (Or.inl ⟨by rfl, ?_⟩) ?_ ?_
          rotate_left
          · intro w'
            go_simp
            with_reducible rfl
          rotate_left
          · (try simp only [Act.put, List.setIfInBounds_toArray, List.set_cons_zero, List.set_cons_succ, i64_w, i32_w])
            rfl
          refine pure_ (i := 8) (N := some 66) (v := undef) (a' := ?_) #[true, true, true, true, true, true, true, true, true, false, false, false, false, false, false, false, false, false] rfl rfl (by kernel_rfl) (fun _ _ _ h => h) (Or.inr ⟨by rfl, rfl⟩) ?_ ?_
          rotate_left
          · (try simp only [Act.put, List.setIfInBounds_toArray, List.set_cons_zero, List.set_cons_succ, i64_w, i32_w])
            rfl
          refine pure_ (i := 9) (N := some 67) (v := undef) (a' := ?_) #[true, true, true, true, true, true, true, true, true, true, false, false, false, false, false, false, false, false] rfl rfl (by kernel_rfl) (fun _ _ _ h => h) (Or.inr ⟨by rfl, rfl⟩) ?_ ?_
          rotate_left
          · (try simp only [Act.put, List.setIfInBounds_toArray, List.set_cons_zero, List.set_cons_succ, i64_w, i32_w])
            rfl
          refine pure_ (i := 10) (N := some 68) (v := undef) (a' := ?_) #[true, true, true, true, true, true, true, true, true, true, true, false, false, false, false, false, false, false] rfl rfl (by kernel_rfl) (fun _ _ _ h => h) (Or.inr ⟨by rfl, rfl⟩) ?_ ?_
          rotate_left
          · (try simp only [Act.put, List.setIfInBounds_toArray, List.set_cons_zero, List.set_cons_succ, i64_w, i32_w])
            rfl
          refine pure_ (i := 11) (N := some 69) (v := undef) (a' := ?_) #[true, true, true, true, true, true, true, true, true, true, true, true, false, false, false, false, false, false] rfl rfl (by kernel_rfl) (fun _ _ _ h => h) (Or.inr ⟨by rfl, rfl⟩) ?_ ?_
          rotate_left
          · (try simp only [Act.put, List.setIfInBounds_toArray, List.set_cons_zero, List.set_cons_succ, i64_w, i32_w])
            rfl
          refine pure_ (i := 12) (N := some 70) (v := undef) (a' := ?_) #[true, true, true, true, true, true, true, true, true, true, true, true, true, false, false, false, false, false] rfl rfl (by kernel_rfl) (fun _ _ _ h => h) (Or.inr ⟨by rfl, rfl⟩) ?_ ?_
          rotate_left
          · (try simp only [Act.put, List.setIfInBounds_toArray, List.set_cons_zero, List.set_cons_succ, i64_w, i32_w])
            rfl
          refine pure_ (i := 13) (N := some 71) (v := undef) (a' := ?_) #[true, true, true, true, true, true, true, true, true, true, true, true, true, true, false, false, false, false] rfl rfl (by kernel_rfl) (fun _ _ _ h => h) (Or.inr ⟨by rfl, rfl⟩) ?_ ?_
          rotate_left
          · (try simp only [Act.put, List.setIfInBounds_toArray, List.set_cons_zero, List.set_cons_succ, i64_w, i32_w])
            rfl
          refine pure_ (i := 14) (N := some 72) (v := undef) (a' := ?_) #[true, true, true, true, true, true, true, true, true, true, true, true, true, true, true, false, false, false] rfl rfl (by kernel_rfl) (fun _ _ _ h => h) (Or.inr ⟨by rfl, rfl⟩) ?_ ?_
          rotate_left
          · (try simp only [Act.put, List.setIfInBounds_toArray, List.set_cons_zero, List.set_cons_succ, i64_w, i32_w])
            rfl
          refine pure_ (i := 15) (N := some 73) (v := undef) (a' := ?_) #[true, true, true, true, true, true, true, true, true, true, true, true, true, true, true, true, false, false] rfl rfl (by kernel_rfl) (fun _ _ _ h => h) (Or.inr ⟨by rfl, rfl⟩) ?_ ?_
          rotate_left
          · (try simp only [Act.put, List.setIfInBounds_toArray, List.set_cons_zero, List.set_cons_succ, i64_w, i32_w])
            rfl
          refine pure_ (i := 16) (N := some 74) (v := ?_) (a' := ?_) #[true, true, true, true, true, true, true, true, true, true, true, true, true, true, true, true, true, false] rfl rfl (by kernel_rfl) (fun _ _ _ h => h) (Or.inl ⟨by rfl, ?_⟩) ?_ ?_
          rotate_left
          · intro w'
            go_simp
            with_reducible rfl
          rotate_left
          · (try simp only [Act.put, List.setIfInBounds_toArray, List.set_cons_zero, List.set_cons_succ, i64_w, i32_w])
            rfl
          refine pure_ (i := 17) (N := some 75) (v := ?_) (a' := ?_) #[true, true, true, true, true, true, true, true, true, true, true, true, true, true, true, true, true, true] rfl rfl (by kernel_rfl) (fun _ _ _ h => h) (Or.inl ⟨by rfl, ?_⟩) ?_ ?_
          rotate_left
          · intro w'
            go_simp
            with_reducible rfl
          rotate_left
          · (try simp only [Act.put, List.setIfInBounds_toArray, List.set_cons_zero, List.set_cons_succ, i64_w, i32_w])
            rfl
          refine done_ (by kernel_rfl) ?_
          clear hHeld
          clear hwas
          have c68 : w.cell? ⟨g14, 68, none⟩ = some (.int .i64 S.steps) := (st_cell HS 0 rfl 68).trans (stL_steps hs)
          go_wp2
          go_roundg k1
          case measure => omega
          case rel =>
            refine ⟨i + 1, ?_, by rw [← HII.out]; first | rfl | (rw [w64 ((i : Int) + 1) (by omega) (by have := HIK.out; omega)]; rfl), ⟨by have := HIK.out; omega, by have := HJ.out; omega⟩, ⟨?_⟩⟩
            · rw [HT.out, ← HSS.out]
            · rw [HT.out]; exact (HS.tail.tail).erase 1
      · have hkk : i = script.length := by have := HJ.out.1; omega
        subst hkk
        have hkb : decide (script.length < script.length) = false := decide_eq_false (Nat.lt_irrefl _)
        go_wp2
        go_ret
        exact ⟨rfl, HS.old 3 rfl⟩

end
theorem knows_walk {H : Type} {enc : TypeId × Value → H} {d0 d1 d3 : DataW H} {p0 p1 p3 : List MemPlace} (v0 v1 : Value) (a2 : Int) (v3 : Value) (W : World) (h0 : Arg enc Try.prog W 25 v0 d0 p0) (h1 : Arg enc Try.prog W 26 v1 d1 p1) (_ : (Lit.int .i64 a2).wf = true) (h3 : Arg enc Try.prog W 62 v3 d3 p3) :
    Calls Try.prog 6 #[v0, v1, .int .i64 a2, v3] W fun e w' => e = .returned (.bool true) ∧ Below W.heap.size W w' := by
  obtain ⟨Ac, cc, code, Aa, ca, arrs, st, mem, rfl, hcc, hca, hC, hA, _⟩ := open_img h0
  obtain ⟨Ai, ci, ins, rfl, hci, hI⟩ := open_rows h1
  obtain ⟨As, cs, script, rfl, _, hS⟩ := open_script h3
  obtain ⟨b, hb, hF⟩ := few_tells code arrs st mem ins
  cases b with
  | false => exact knows_few a2 W hC hcc hA hca hI hci hb
  | true =>
    by_cases hx : 150 < (script.length : Int)
    · exact knows_long a2 W hC hcc hA hca hI hci hb (decide_eq_true hx)
    · exact knows_main a2 W hC hcc hA hca hI hci hb (hF rfl) hS (decide_eq_false hx)
end Go.Proofs.Ytiafbpbbhgpjkaa.B
