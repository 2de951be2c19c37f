/- SpecHonest: honest deeds, and those that find nothing to guess by, do what layer 19 does. -/
import Derived.Test.YtiafbpbbhgpjkaaSpecAt
import Derived.Test.YtiafbpbbhgpjkaaSpecQ
import Derived.Deep.DeepCutAuto
namespace Go.Proofs.Ytiafbpbbhgpjkaa.B
open Go.RowKit Go.Proofs.Ytiafbpbbhgpjkaa.Mine Go.Proofs.Ytiafbpbbhgpjkaa.Sep Go.Proofs.YtiafbpbbhgpjkaaW.PrintWords Go.Proofs.YtiafbpbbhgpjkaaW.PrintLast Go.Proofs.YtiafbpbbhgpjkaaW.PrintMore
set_option linter.unusedVariables false
set_option linter.unusedSimpArgs false
theorem and3 (n : Int) : Go.bits .and .i64 n 3 = n % 4 := by
  have h1 : (BitVec.ofInt 64 3).toNat = 2 ^ 2 - 1 := by decide
  have key : (BitVec.ofInt 64 n &&& BitVec.ofInt 64 3).toNat = (n % ((2 ^ 64 : Nat) : Int)).toNat % 2 ^ 2 := by
    rw [BitVec.toNat_and, BitVec.toNat_ofInt, h1, Nat.and_two_pow_sub_one_eq_mod]
  show IntKind.i64.wrap ((BitVec.ofInt 64 n &&& BitVec.ofInt 64 3).toNat : Nat) = n % 4
  rw [key, IntKind.wrap_i64]
  omega
theorem wp_norm_ {P : Program} {c : Code} {Q : Exit → Act → World → Prop} {a a' : Act} {w : World} (ha : a = a') (h : c.wp P Q a' w) : c.wp P Q a w := by subst ha; exact h
section
variable {H : Type} {enc : TypeId × Value → H} {w : World}
theorem open_ints {v : Value} {d : DataW H} {p : List MemPlace} (h : Arg enc Try.prog w 27 v d p) : ∃ A c, ∃ l : List Int, v = .slice A l.length c ∧ l.length ≤ c ∧ Kd.C (Kd.int .i64) w A l.length l := by
  obtain ⟨fuel, hr⟩ := h.read
  obtain ⟨A, n, cap, xs, hcs, h1, _, h2, _, _⟩ := trod_row (Kd.int .i64) (fun _ => True) Try.underlying27 (by kernel_rfl) (fun fuel cs x h => by
    obtain ⟨z, hz, _, _⟩ := DataW.trod_int Try.underlying3 h
    exact ⟨z, hz, trivial⟩) hr
  have e : xs.length = n := h2.1
  subst e
  obtain ⟨b, hok⟩ := h.ok
  obtain ⟨a', b', c', rfl⟩ := Go.WideShapes.okWide_slice Try.underlying27 hok
  simp only [Value.cells] at hcs
  cases hcs
  exact ⟨_, _, xs, rfl, h1, h2⟩
end
section
variable {Ac : Option Addr} {cc : Nat} {code : List S48} {Aa : Option Addr} {ca : Nat} {arrs : List S72} {st me : Int} {Ai : Option Addr} {ci : Nat} {ins : List (List Int)} {As : Option Addr} {cs : Nat} {deeds : List Int}

set_option maxRecDepth 100000 in
set_option maxHeartbeats 1000000 in
theorem honest_few (a2 : Int) (W : World) (hC : Kd.C k48 W Ac code.length code) (hcc : code.length ≤ cc) (hA : Kd.C k72 W Aa arrs.length arrs) (hca : arrs.length ≤ ca) (hI : Kd.C (Kd.slice 2 (Kd.int .i64)) W Ai ins.length ins) (hci : ins.length ≤ ci) (hf : palingslaw19_Few.f 500 code arrs st me ins = some false) :
    Calls Try.prog 3 #[.agg #[.slice Ac code.length cc, .slice Aa arrs.length ca, .int .i64 st, .int .i64 me], .slice Ai ins.length ci, .int .i64 a2, .slice As deeds.length cs] W fun e W' => e = .returned (.bool true) ∧ Below W.heap.size W W' := by
  have HS := Sat.start W
  have HF := Aside0.mk hf
  clear hf
  go_enter Try.func3, Try.ntmps3
  go_upto_region 1 with ((with_reducible refine gate_dst (N := 4) rfl ?_); go_must (refine ev_box HS rfl (N := 4) rfl (cs := #[.slice Ac code.length cc, .slice Aa arrs.length ca, .int .i64 st, .int .i64 me]) (t := 25) ?hrun ?_); (case hrun => first | (go_simp; done) | (go_simp; rfl)); clear HS; intro gb w HS)
  go_upto_region 3 with (go_at_call 9; refine (head_calls HS).mono ?_; rintro e w_ ⟨rfl, HS_⟩; clear HS; have HS := HS_; clear HS_)
  have cb := HS.cell 0 rfl
  have hb0 := HS.old 1 rfl
  have HC := Aside0.mk (Kd.C_below hC hb0)
  have HA := Aside0.mk (Kd.C_below hA hb0)
  have HI := Aside0.mk (Kd.C_below hI hb0)
  clear hb0
  go_wp2_with (first | ((with_reducible refine gate_load (ty := 25) (p := 4) rfl ?_); go_must (refine ev_load HS 0 rfl rfl 25 (.tmp 4) rfl (N := 19) rfl rfl _ Try.underlying25 rfl (by kernel_rfl) ?_)) | (go_at_call 10; (with_reducible refine (palingslaw19_Few.calls 500 _ _ code _ _ arrs st me _ _ ins false _ HC.out hcc HA.out hca HI.out hci HF.out).mono ?_); rintro e w2 ⟨rfl, hb⟩; replace HS := HS.below hb; clear hb; have cb := HS.cell 0 rfl))
  go_ret
  exact ⟨rfl, HS.old 1 rfl⟩

set_option maxRecDepth 100000 in
set_option maxHeartbeats 1000000 in
theorem honest_long (a2 : Int) (W : World) (hC : Kd.C k48 W Ac code.length code) (hcc : code.length ≤ cc) (hA : Kd.C k72 W Aa arrs.length arrs) (hca : arrs.length ≤ ca) (hI : Kd.C (Kd.slice 2 (Kd.int .i64)) W Ai ins.length ins) (hci : ins.length ≤ ci) (hf : palingslaw19_Few.f 500 code arrs st me ins = some true) (hx : decide (150 < (deeds.length : Int)) = true) :
    Calls Try.prog 3 #[.agg #[.slice Ac code.length cc, .slice Aa arrs.length ca, .int .i64 st, .int .i64 me], .slice Ai ins.length ci, .int .i64 a2, .slice As deeds.length cs] W fun e W' => e = .returned (.bool true) ∧ Below W.heap.size W W' := by
  have HS := Sat.start W
  have HF := Aside0.mk hf
  clear hf
  go_enter Try.func3, Try.ntmps3
  go_upto_region 1 with ((with_reducible refine gate_dst (N := 4) rfl ?_); go_must (refine ev_box HS rfl (N := 4) rfl (cs := #[.slice Ac code.length cc, .slice Aa arrs.length ca, .int .i64 st, .int .i64 me]) (t := 25) ?hrun ?_); (case hrun => first | (go_simp; done) | (go_simp; rfl)); clear HS; intro gb w HS)
  go_upto_region 3 with (go_at_call 9; refine (head_calls HS).mono ?_; rintro e w_ ⟨rfl, HS_⟩; clear HS; have HS := HS_; clear HS_)
  have cb := HS.cell 0 rfl
  have hb0 := HS.old 1 rfl
  have HC := Aside0.mk (Kd.C_below hC hb0)
  have HA := Aside0.mk (Kd.C_below hA hb0)
  have HI := Aside0.mk (Kd.C_below hI hb0)
  clear hb0
  go_wp2_with (first | ((with_reducible refine gate_load (ty := 25) (p := 4) rfl ?_); go_must (refine ev_load HS 0 rfl rfl 25 (.tmp 4) rfl (N := 19) rfl rfl _ Try.underlying25 rfl (by kernel_rfl) ?_)) | (go_at_call 10; (with_reducible refine (palingslaw19_Few.calls 500 _ _ code _ _ arrs st me _ _ ins true _ HC.out hcc HA.out hca HI.out hci HF.out).mono ?_); rintro e w2 ⟨rfl, hb⟩; replace HS := HS.below hb; clear hb; have cb := HS.cell 0 rfl))
  go_ret
  exact ⟨rfl, HS.old 1 rfl⟩

set_option maxRecDepth 100000 in
set_option maxHeartbeats 8000000 in
theorem honest_main (a2 : Int) (W : World) (hC : Kd.C k48 W Ac code.length code) (hcc : code.length ≤ cc) (hA : Kd.C k72 W Aa arrs.length arrs) (hca : arrs.length ≤ ca) (hI : Kd.C (Kd.slice 2 (Kd.int .i64)) W Ai ins.length ins) (hci : ins.length ≤ ci) (hf : palingslaw19_Few.f 500 code arrs st me ins = some true) (hF : Fews code arrs st me ins) (hDd : Kd.C (Kd.int .i64) W As deeds.length deeds) (hx : decide (150 < (deeds.length : Int)) = false) :
    Calls Try.prog 3 #[.agg #[.slice Ac code.length cc, .slice Aa arrs.length ca, .int .i64 st, .int .i64 me], .slice Ai ins.length ci, .int .i64 a2, .slice As deeds.length cs] W fun e W' => e = .returned (.bool true) ∧ Below W.heap.size W W' := by
  have HS := Sat.start W
  have HF := Aside0.mk hf
  clear hf
  have hsl : deeds.length ≤ 150 := by have := of_decide_eq_false hx; omega
  obtain ⟨B, hB⟩ : ∃ B, B = Go.bits .and .i64 a2 15 := ⟨_, rfl⟩
  have hB0 : 0 ≤ B := by rw [hB, and15]; omega
  have hB1 : B ≤ 15 := by rw [hB, and15]; omega
  have hbits : Go.bits .and .i64 a2 15 = B := hB.symm
  obtain ⟨win, hwin⟩ : ∃ win, 1 + B = win := ⟨_, rfl⟩
  have hw : wrap64 win = win := w64 _ (by omega) (by omega)
  have hw0 : 1 ≤ win := by omega
  have hw1 : win ≤ 1000 := by omega
  clear hB
  have HFI := Aside0.mk (fine_of (ins := ins) hF.right)
  go_enter Try.func3, Try.ntmps3
  go_upto_region 1 with ((with_reducible refine gate_dst (N := 4) rfl ?_); go_must (refine ev_box HS rfl (N := 4) rfl (cs := #[.slice Ac code.length cc, .slice Aa arrs.length ca, .int .i64 st, .int .i64 me]) (t := 25) ?hrun ?_); (case hrun => first | (go_simp; done) | (go_simp; rfl)); clear HS; intro gb w HS)
  go_upto_region 3 with (go_at_call 9; refine (head_calls HS).mono ?_; rintro e w_ ⟨rfl, HS_⟩; clear HS; have HS := HS_; clear HS_)
  have cb := HS.cell 0 rfl
  have hb0 := HS.old 1 rfl
  have HC := Aside0.mk (Kd.C_below hC hb0)
  have HA := Aside0.mk (Kd.C_below hA hb0)
  have HI := Aside0.mk (Kd.C_below hI hb0)
  clear hb0
  go_upto_region 5 with (first | ((with_reducible refine gate_load (ty := 25) (p := 4) rfl ?_); go_must (refine ev_load HS 0 rfl rfl 25 (.tmp 4) rfl (N := 19) rfl rfl _ Try.underlying25 rfl (by kernel_rfl) ?_)) | (go_at_call 10; (with_reducible refine (palingslaw19_Few.calls 500 _ _ code _ _ arrs st me _ _ ins true _ HC.out hcc HA.out hca HI.out hci HF.out).mono ?_); rintro e w2 ⟨rfl, hb⟩; replace HS := HS.below hb; clear hb; have cb := HS.cell 0 rfl))
  clear HC HA HI
  go_upto_region 9 with (first | ((with_reducible refine gate_load (ty := 25) (p := 4) rfl ?_); go_must (refine ev_load HS 0 rfl rfl 25 (.tmp 4) rfl (N := 32) rfl rfl _ Try.underlying25 rfl (by kernel_rfl) ?_)) | (go_at_call 11; refine (new_calls (fun w h => Kd.C_below hC (h.old 1 rfl)) hcc (fun w h => Kd.C_below hA (h.old 1 rfl)) hca (fun w h => Kd.C_below hI (h.old 1 rfl)) (Aside0.mk HFI.out.right.choose_spec) HFI.out.lies HFI.out.al HFI.out.m0 HFI.out.m1 HFI.out.cl hw0 hw1 HS).mono ?_; rintro e w_ ⟨g, Am, cm, At, ct, rfl, HS_⟩; clear HS; have HS := HS_; clear HS_))
  clear cb
  replace HS : Sat W w_ [mch g Am me.toNat cm (.slice Ac code.length cc) (.slice At (sitesF code 0).length ct) win (newX st me arrs ins), row IW 3 (.slice At (sitesF code 0).length ct) (sitesF code 0), blk gb 25 #[.slice Ac code.length cc, .slice Aa arrs.length ca, .int .i64 st, .int .i64 me], old W] := HS
  go_upto_region 10 with (first | ((with_reducible refine gate_load (ty := 25) (p := 4) rfl ?_); go_must (refine ev_load HS 2 rfl rfl 25 (.tmp 4) rfl (N := 40) rfl rfl _ Try.underlying25 rfl (by kernel_rfl) ?_)) | (go_at_call 12; (with_reducible refine (begin_calls st me HS).mono ?_); rintro e w_ ⟨rfl, HS_⟩; clear HS; have HS := HS_; clear HS_) | ((with_reducible refine gate_dst (N := 11) rfl ?_); go_must (refine ev_box HS rfl (N := 11) rfl (cs := (stL z0).toArray) (t := 37) ?hrun ?_); (case hrun => first | (go_simp; done) | (go_simp; rfl)); clear HS; intro g11 w HS) | ((with_reducible refine gate_store (t := 37) (p := 11) rfl ?_); go_must (refine ev_store HS 0 rfl rfl 37 (.tmp 11) (.tmp 41) rfl rfl rfl (stL (beginS st)) rfl (len32 (begin_len st)) rfl (stL_one _) ?_); clear HS; intro w HS))
  have HSC := Aside0.mk (start_calls (nc := code.length) (cc := cc) (Ac := Ac) (st := st) (ca := ca) (ci := ci) (fun w h => Kd.C_below hA (h.old 4 rfl)) (fun w h => Kd.C_below hI (h.old 4 rfl)) HFI.out.lies HFI.out.al HFI.out.m0 HFI.out.m1 HS)
  go_upto_region 11 with (first | ((with_reducible refine gate_load (ty := 25) (p := 4) rfl ?_); go_must (refine ev_load HS 3 rfl rfl 25 (.tmp 4) rfl (N := 42) rfl rfl _ Try.underlying25 rfl (by kernel_rfl) ?_)) | (go_at_call 13; refine HSC.out.mono ?_; rintro e w_ ⟨Al, ll, cl, rfl, HS_⟩; clear HS HSC; have HS := HS_; clear HS_))
  replace HS : Sat W w_ [wch g11 Al ll cl (newX st me arrs ins).s (wrs (newX st me arrs ins).mem (newX st me arrs ins).buf), mch g Am me.toNat cm (.slice Ac code.length cc) (.slice At (sitesF code 0).length ct) win (newX st me arrs ins), row IW 3 (.slice At (sitesF code 0).length ct) (sitesF code 0), blk gb 25 #[.slice Ac code.length cc, .slice Aa arrs.length ca, .int .i64 st, .int .i64 me], old W] := Sat.join HS.swap
  go_wp2
  go_loopg [47] (deeds.length + 1) (fun kq v47 w' => ∃ (i : Nat) (X : SM), v47 = .int .i64 (i : Int) ∧ Aside0 (i ≤ deeds.length ∧ deeds.length + 1 ≤ kq + i ∧ Inv code (beginS st, startF ins arrs me) i X ∧ X.saved = none) ∧
      Aside0 (Sat W w' [wch g11 Al ll cl X.s (wrs X.mem X.buf), mch g Am me.toNat cm (.slice Ac code.length cc) (.slice At (sitesF code 0).length ct) win X, row IW 3 (.slice At (sitesF code 0).length ct) (sitesF code 0), blk gb 25 #[.slice Ac code.length cc, .slice Aa arrs.length ca, .int .i64 st, .int .i64 me], old W]))
  case atStart => exact ⟨0, (newX st me arrs ins), rfl, ⟨by omega, by omega, new_inv code st me arrs ins, rfl⟩, ⟨HS⟩⟩
  case round =>
    clear HS
    obtain ⟨i, X, rfl, HJ, HS'⟩ := hrel
    have HS := HS'.out
    clear HS'
    cases gk with
    | zero => have := HJ.out; omega
    | succ k1 =>
      by_cases hk : i < deeds.length
      · obtain ⟨I, hI_⟩ : ∃ I : Int, (i : Int) = I := ⟨_, rfl⟩
        have p1 : 0 ≤ I := by omega
        have q1 : I < (deeds.length : Int) := by omega
        have c1_ : decide (I < (deeds.length : Int)) = true := decide_eq_true q1
        obtain ⟨ad, rfl, x0⟩ := Kd.at_int (Kd.C_below hDd (HS.old 4 rfl)) I p1 q1
        obtain ⟨D, hD⟩ : ∃ D, D = rd deeds I := ⟨_, rfl⟩
        rw [← hD] at x0
        obtain ⟨E, hE⟩ : ∃ E, E = Go.bits .and .i64 D 3 := ⟨_, rfl⟩
        have hE0 : 0 ≤ E := by rw [hE, and3]; omega
        have hE1 : E < 4 := by rw [hE, and3]; omega
        have hbits3 : Go.bits .and .i64 D 3 = E := hE.symm
        have hrr := HJ.out.2.2.1.regs
        obtain ⟨P, hP⟩ : ∃ P, X.s.pc = P := ⟨_, rfl⟩
        have HP := Aside0.mk hP
        have hwi : wrap64 (I + 1) = I + 1 := w64 _ (by omega) (by omega)
        have HII := Aside0.mk hI_
        have HIK := Aside0.mk (show i < deeds.length ∧ i ≤ 200 from ⟨hk, by omega⟩)
        rw [hI_]
        clear hD hE hk hI_ hP
        have r1_ := eq_true p1
        have r2_ := eq_true q1
        replace HS : Sat W wr [blk g11 37 (stL X.s).toArray, row IW 2 (.slice Al ll cl) (wrs X.mem X.buf), mch g Am me.toNat cm (.slice Ac code.length cc) (.slice At (sitesF code 0).length ct) win X, row IW 3 (.slice At (sitesF code 0).length ct) (sitesF code 0), blk gb 25 #[.slice Ac code.length cc, .slice Aa arrs.length ca, .int .i64 st, .int .i64 me], old W] := Sat.split HS
        go_upto_region 15 with (first | ((with_reducible refine gate_dst (N := 15) rfl ?_); go_must (refine ev_box HS rfl (N := 15) rfl (cs := #[.int .i64 0, .int .i64 0]) (t := 44) ?hrun ?_); (case hrun => first | (go_simp; done) | (go_simp; rfl)); clear HS; intro gd w HS) | ((with_reducible refine gate_store (t := 44) (p := 15) rfl ?_); go_must (refine ev_store HS 0 rfl rfl 44 (.tmp 15) (.tmp 51) rfl rfl rfl [.int .i64 0, .int .i64 0] ?hx (by kernel_rfl) (by rfl) ?h1 ?_); (case hx => first | rfl | (go_simp; done)); (case h1 => simp [Value.oneCell']); clear HS; intro w HS))
        have c64 : w.cell? ⟨g11, 64, none⟩ = some (.int .i64 P) := ((st_cell HS 1 rfl 64).trans (stL_pc hrr)).trans (by rw [HP.out])
        have cb : w.cell? ⟨gb, 0, none⟩ = some (.slice Ac code.length cc) := HS.cell 5 rfl 0
        have cg := HS.cell 0 rfl
        have fg : w.frozen? ⟨gd, 0, none⟩ = false := HS.frozen 0 rfl 0
        clear x0 r1_ r2_ c1_
        refine wp_norm_ (a' := ?_) ?_ ?_
        rotate_left
        · show Act.put _ _ _ = _
          (try simp only [Act.put, List.setIfInBounds_toArray, List.set_cons_zero, List.set_cons_succ, i64_w, i32_w])
          rfl
        go_cut [62] (fun v62 wc => v62 = .bool (decide (0 ≤ P ∧ P < (code.length : Int))) ∧ wc = w)
        case first =>
          by_cases hp0 : 0 ≤ P
          · have hb1 : decide (0 ≤ P) = true := decide_eq_true hp0
            by_cases hp1 : P < (code.length : Int)
            · have hb2 : decide (P < (code.length : Int)) = true := decide_eq_true hp1
              go_wp2
              go_meet
              case rel => exact ⟨congrArg Value.bool (decide_eq_true (p := 0 ≤ P ∧ P < (code.length : Int)) ⟨hp0, hp1⟩).symm, rfl⟩
            · have hb2 : decide (P < (code.length : Int)) = false := decide_eq_false hp1
              go_wp2
              go_meet
              case rel => exact ⟨congrArg Value.bool (decide_eq_false (p := 0 ≤ P ∧ P < (code.length : Int)) (fun h => by omega)).symm, rfl⟩
          · have hb1 : decide (0 ≤ P) = false := decide_eq_false hp0
            go_wp2
            go_meet
            case rel => exact ⟨congrArg Value.bool (decide_eq_false (p := 0 ≤ P ∧ P < (code.length : Int)) (fun h => by omega)).symm, rfl⟩
        obtain ⟨e1_, e2_⟩ := hcut
        subst e1_
        subst e2_
        obtain ⟨bb, hbb⟩ : ∃ b, b = decide (0 ≤ P ∧ P < (code.length : Int)) := ⟨_, rfl⟩
        rw [← hbb]
        have HBB := Aside0.mk hbb
        clear hbb
        go_upto_if 62 with (fail)
        go_cut [16] (fun v16 wc => ∃ dv : Int, Aside0 (¬ (dv = 1 ∧ 0 ≤ X.s.pc ∧ X.s.pc < (code.length : Int) ∧ ((rd_T48 code X.s.pc).f0 = 7 ∨ (rd_T48 code X.s.pc).f0 = 9)) ∧ ¬ (dv = 2 ∧ 0 ≤ X.s.pc ∧ X.s.pc < (code.length : Int) ∧ (rd_T48 code X.s.pc).f0 = 4)) ∧ Aside0 (Sat W wc [blk gd 44 #[.int .i64 dv, .int .i64 0], blk g11 37 (stL X.s).toArray, row IW 2 (.slice Al ll cl) (wrs X.mem X.buf), mch g Am me.toNat cm (.slice Ac code.length cc) (.slice At (sitesF code 0).length ct) win X, row IW 3 (.slice At (sitesF code 0).length ct) (sitesF code 0), blk gb 25 #[.slice Ac code.length cc, .slice Aa arrs.length ca, .int .i64 st, .int .i64 me], old W]))
        case first =>
          cases bb with
          | true =>
            obtain ⟨hp0, hp1⟩ := of_decide_eq_true HBB.out.symm
            obtain ⟨ac, rfl, y0, _⟩ := at_T48 (Kd.C_below hC (HS.old 6 rfl)) P hp0 hp1
            obtain ⟨O, hO⟩ : ∃ O, O = (rd_T48 code P).f0 := ⟨_, rfl⟩
            rw [← hO] at y0
            have HO := Aside0.mk (show O = (rd_T48 code X.s.pc).f0 from by rw [HP.out]; exact hO)
            clear hO
            have r1 := eq_true hp0
            have r2 := eq_true hp1
            have hE : E = 0 ∨ E = 1 ∨ E = 2 ∨ E = 3 := by omega
            clear hE0 hE1
            rcases hE with rfl | rfl | rfl | rfl
            · skip
              go_wp2
              go_meet
              case rel => exact ⟨0, ⟨by rintro ⟨h, _⟩; exact absurd h (by decide), by rintro ⟨h, _⟩; exact absurd h (by decide)⟩, ⟨HS⟩⟩
            · by_cases h7 : O = 7
              · subst h7
                go_wp2
                go_meet
                case rel => exact ⟨0, ⟨by rintro ⟨h, _⟩; exact absurd h (by decide), by rintro ⟨h, _⟩; exact absurd h (by decide)⟩, ⟨HS⟩⟩
              · by_cases h9 : O = 9
                · subst h9
                  go_wp2
                  go_meet
                  case rel => exact ⟨0, ⟨by rintro ⟨h, _⟩; exact absurd h (by decide), by rintro ⟨h, _⟩; exact absurd h (by decide)⟩, ⟨HS⟩⟩
                · skip
                  have hn7 : decide (O = 7) = false := decide_eq_false h7
                  have hm7 : (O == 7) = false := by simpa using h7
                  have hq7 : (O != 7) = true := by simpa using h7
                  have hn9 : decide (O = 9) = false := decide_eq_false h9
                  have hm9 : (O == 9) = false := by simpa using h9
                  have hq9 : (O != 9) = true := by simpa using h9
                  have HN := Aside0.mk (And.intro h7 h9)
                  clear h7 h9
                  go_wp2
                  replace HS := HS.store 0 rfl 0 (.int .i64 1)
                  go_meet
                  case rel => exact ⟨1, ⟨by rintro ⟨_, _, _, h⟩; rw [← HO.out] at h; have := HN.out; omega, by rintro ⟨h, _⟩; exact absurd h (by decide)⟩, ⟨HS⟩⟩
            · by_cases h4 : O = 4
              · subst h4
                go_wp2
                go_meet
                case rel => exact ⟨0, ⟨by rintro ⟨h, _⟩; exact absurd h (by decide), by rintro ⟨h, _⟩; exact absurd h (by decide)⟩, ⟨HS⟩⟩
              · skip
                have hn4 : decide (O = 4) = false := decide_eq_false h4
                have hm4 : (O == 4) = false := by simpa using h4
                have hq4 : (O != 4) = true := by simpa using h4
                have HN := Aside0.mk h4
                clear h4
                go_wp2
                replace HS := HS.store 0 rfl 0 (.int .i64 2)
                go_meet
                case rel => exact ⟨2, ⟨by rintro ⟨h, _⟩; exact absurd h (by decide), by rintro ⟨_, _, _, h⟩; rw [← HO.out] at h; have := HN.out; omega⟩, ⟨HS⟩⟩
            · skip
              go_wp2
              replace HS := HS.store 0 rfl 0 (.int .i64 3)
              go_meet
              case rel => exact ⟨3, ⟨by rintro ⟨h, _⟩; exact absurd h (by decide), by rintro ⟨h, _⟩; exact absurd h (by decide)⟩, ⟨HS⟩⟩
          | false =>
            go_wp2
            go_meet
            case rel => exact ⟨0, ⟨by rintro ⟨h, _⟩; exact absurd h (by decide), by rintro ⟨h, _⟩; exact absurd h (by decide)⟩, ⟨HS⟩⟩
        case rest =>
          obtain ⟨dv, hdv, HS'⟩ := hcut
          have HS := HS'.out
          clear HS'
          have hpl := doM_plain HJ.out.2.2.1 HJ.out.2.2.2 (sitesF code 0) win dv 0 hdv.out.1 hdv.out.2
          have hgood := doM_good HJ.out.2.2.1 (by have := HIK.out; omega) (sitesF code 0) win dv 0
          obtain ⟨Q, hQ⟩ : ∃ Q, Q = doM code (sitesF code 0) win X dv 0 := ⟨_, rfl⟩
          rw [← hQ] at hpl hgood
          have HQ := Aside0.mk hQ
          have HPL := Aside0.mk hpl
          have HPG := Aside0.mk hgood.1
          have hr := hgood.1.regs
          have HQB := Aside0.mk (show Q.1.n ≤ 1000000 ∧ Q.2.length ≤ 1000000 ∧ Q.1.saved.isSome = false from ⟨by have := hgood.1.cnt; have := HIK.out; omega, by rw [hpl.o]; have := stepF_len wF code X.s (wrs X.mem X.buf); omega, by rw [hpl.sv]; rfl⟩)
          clear hQ hpl hgood hdv
          go_upto_region 23 with (fail)
          refine start_ (n := 22) (S := fun w' => ∃ L', Sat W w' (blk gd 44 #[.int .i64 dv, .int .i64 0] :: blk gb 25 #[.slice Ac code.length cc, .slice Aa arrs.length ca, .int .i64 st, .int .i64 me] :: L')) (ds := []) #[false, false, false, false, false, false, false, false, false, false, false, false, false, false, false, false, false, false, false, false, false, false] (by kernel_rfl) rfl rfl ⟨_, (HS.drew.front 5 rfl).front 1 rfl⟩ (fun hHeld => ?_)
          replace HS := HS.drew
          generalize World.drew wc = w at HS hHeld ⊢
          refine pure_ (i := 0) (N := some 94) (v := ?_) (a' := ?_) #[true, false, false, false, false, false, false, false, false, false, false, false, false, false, false, false, false, false, false, false, false, false] rfl rfl (by kernel_rfl) (fun _ _ _ h => h) (Or.inl ⟨by rfl, ?_⟩) ?_ ?_
          rotate_left
          · intro w'
            go_simp
            with_reducible rfl
          rotate_left
          · (try simp only [Act.put, List.setIfInBounds_toArray, List.set_cons_zero, List.set_cons_succ, i64_w, i32_w])
            rfl
          refine take_ (i := 1) (N := some 95) (v := ?_) (a' := ?_) #[true, true, false, false, false, false, false, false, false, false, false, false, false, false, false, false, false, false, false, false, false, false] rfl rfl (by kernel_rfl) (fun _ _ _ h => h) (Or.inl ⟨by rfl, ?_⟩) hHeld ?_ ?_
          rotate_left
          · rintro w' hS
            obtain ⟨L', hS⟩ := hS
            refine whole_run hS 0 rfl 44 (.tmp 15) ?_ ?_ _ deedUnder rfl (by kernel_rfl) <;> rfl
          rotate_left
          · (try simp only [Act.put, List.setIfInBounds_toArray, List.set_cons_zero, List.set_cons_succ, i64_w, i32_w])
            rfl
          refine pure_ (i := 3) (N := some 97) (v := ?_) (a' := ?_) #[true, true, false, true, false, false, false, false, false, false, false, false, false, false, false, false, false, false, false, false, false, false] rfl rfl (by kernel_rfl) (fun _ _ _ h => h) (Or.inl ⟨by rfl, ?_⟩) ?_ ?_
          rotate_left
          · intro w'
            go_simp
            with_reducible rfl
          rotate_left
          · (try simp only [Act.put, List.setIfInBounds_toArray, List.set_cons_zero, List.set_cons_succ, i64_w, i32_w])
            rfl
          refine take_ (i := 4) (N := some 98) (v := ?_) (a' := ?_) #[true, true, false, true, true, false, false, false, false, false, false, false, false, false, false, false, false, false, false, false, false, false] rfl rfl (by kernel_rfl) (fun _ _ _ h => h) (Or.inl ⟨by rfl, ?_⟩) hHeld ?_ ?_
          rotate_left
          · rintro w' hS
            obtain ⟨L', hS⟩ := hS
            have cb := hS.cell 1 rfl
            go_simp
            with_reducible rfl
          rotate_left
          · (try simp only [Act.put, List.setIfInBounds_toArray, List.set_cons_zero, List.set_cons_succ, i64_w, i32_w])
            rfl
          refine pure_ (i := 5) (N := some 99) (v := ?_) (a' := ?_) #[true, true, false, true, true, true, false, false, false, false, false, false, false, false, false, false, false, false, false, false, false, false] rfl rfl (by kernel_rfl) (fun _ _ _ h => h) (Or.inl ⟨by rfl, ?_⟩) ?_ ?_
          rotate_left
          · intro w'
            go_simp
            with_reducible rfl
          rotate_left
          · (try simp only [Act.put, List.setIfInBounds_toArray, List.set_cons_zero, List.set_cons_succ, i64_w, i32_w])
            rfl
          refine pure_ (i := 6) (N := some 100) (v := ?_) (a' := ?_) #[true, true, false, true, true, true, true, false, false, false, false, false, false, false, false, false, false, false, false, false, false, false] rfl rfl (by kernel_rfl) (fun _ _ _ h => h) (Or.inl ⟨by rfl, ?_⟩) ?_ ?_
          rotate_left
          · intro w'
            go_simp
            with_reducible rfl
          rotate_left
          · (try simp only [Act.put, List.setIfInBounds_toArray, List.set_cons_zero, List.set_cons_succ, i64_w, i32_w])
            rfl
          refine one_ (i := 2) (N := some 96) #[true, true, true, true, true, true, true, false, false, false, false, false, false, false, false, false, false, false, false, false, false, false] rfl rfl (by kernel_rfl) (by decide) (fun K hK => ?_)
          refine goes_ Try.func15 (by kernel_rfl) rfl #[.pointer (some ⟨g, 0, none⟩), .agg #[.int .i64 dv, .int .i64 0]] (by rfl) rfl rfl (by (try simp only [List.map_toArray, List.map_cons, List.map_nil]); first | done | rfl) ?_
          replace HS := HS.front 3 rfl
          have HDB := deed_calls (sites := (sitesF code 0)) (deed := dv) (tq := 0) (X := X) (fun w h => Kd.C_below hC (h.old 5 rfl)) (fun w h => h.C 3 rfl) HFI.out.fit (by have := sitesF_len code 0; have := HFI.out.cl; omega) (by have := HJ.out.2.2.1.cnt; have := HIK.out; omega) (by have := HJ.out.2.2.1.len; have := HIK.out; omega) HS
          rw [← HQ.out] at HDB
          refine HDB.mono ?_
          clear HS HDB
          rintro e w ⟨v, rfl, HS⟩
          obtain ⟨Vd, cd_, rfl⟩ := HS.slice 0 rfl
          refine ⟨_, rfl, ?_⟩
          refine hK.out _ _ ⟨_, (HS.front 6 rfl).front 3 rfl⟩ (fun hHeld => ?_)
          clear hK K
          refine norm_ (a' := ?_) ?_ ?_
          rotate_left
          · show Act.put _ _ _ = _
            (try simp only [Act.put, List.setIfInBounds_toArray, List.set_cons_zero, List.set_cons_succ, i64_w, i32_w])
            rfl
          refine one_ (i := 7) (N := some 101) #[true, true, true, true, true, true, true, true, false, false, false, false, false, false, false, false, false, false, false, false, false, false] rfl rfl (by kernel_rfl) (by decide) (fun K hK => ?_)
          refine goes_ Try.func16 (by kernel_rfl) rfl #[.pointer (some ⟨g11, 0, none⟩), .slice Ac code.length cc, .iface 40 (.slice Al ll cl)] (by rfl) rfl rfl (by (try simp only [List.map_toArray, List.map_cons, List.map_nil]); first | done | rfl) ?_
          replace HS := (HS.front 4 rfl).front 4 rfl
          replace HS := Sat.join HS
          have HStep := step_calls (c := cc) (wMem g11 Al ll cl) (s := X.s) (m := wrs X.mem X.buf) (fun w h => Kd.C_below hC (h.old 5 rfl)) HFI.out.fit trivial hrr HS
          refine HStep.mono ?_
          clear HS HStep
          rintro e w ⟨v, rfl, HS⟩
          replace HS : Sat W w (row k60 60 v (stepF wF code X.s (wrs X.mem X.buf)).2.2 :: wch g11 Al ll cl (stepF wF code X.s (wrs X.mem X.buf)).1 (stepF wF code X.s (wrs X.mem X.buf)).2.1 :: _) := HS
          rw [← HPL.out.s, ← HPL.out.o, ← HPL.out.m] at HS
          obtain ⟨Ve, ce, rfl⟩ := HS.slice 0 rfl
          replace HS := Sat.split (HS.front 1 rfl)
          refine ⟨_, rfl, ?_⟩
          refine hK.out _ _ ⟨_, (HS.front 7 rfl).front 6 rfl⟩ (fun hHeld => ?_)
          clear hK K
          refine norm_ (a' := ?_) ?_ ?_
          rotate_left
          · show Act.put _ _ _ = _
            (try simp only [Act.put, List.setIfInBounds_toArray, List.set_cons_zero, List.set_cons_succ, i64_w, i32_w])
            rfl
          refine one_ (i := 8) (N := some 102) #[true, true, true, true, true, true, true, true, true, false, false, false, false, false, false, false, false, false, false, false, false, false] rfl rfl (by kernel_rfl) (by decide) (fun K hK => ?_)
          refine goes_ Try.func14 (by kernel_rfl) rfl #[.slice Vd Q.2.length cd_, .slice Ve Q.2.length ce] (by rfl) rfl rfl (by (try simp only [List.map_toArray, List.map_cons, List.map_nil]); first | done | rfl) ?_
          refine (palingslaw19_Seen.calls 1000001 _ _ Q.2 _ _ Q.2 true _ (HS.C 3 rfl) (HS.cap 3 rfl).2 (HS.C 2 rfl) (HS.cap 2 rfl).2 (seen_same Q.2 HQB.out.2.1)).mono ?_
          rintro e w2 ⟨rfl, hd_⟩
          replace HS := HS.below hd_.below
          clear hd_
          refine ⟨_, rfl, ?_⟩
          refine hK.out _ _ ⟨_, (HS.front 7 rfl).front 6 rfl⟩ (fun hHeld => ?_)
          clear hK K
          refine norm_ (a' := ?_) ?_ ?_
          rotate_left
          · show Act.put _ _ _ = _
            (try simp only [Act.put, List.setIfInBounds_toArray, List.set_cons_zero, List.set_cons_succ, i64_w, i32_w])
            rfl
          refine pure_ (i := 9) (N := some 103) (v := ?_) (a' := ?_) #[true, true, true, true, true, true, true, true, true, true, false, false, false, false, false, false, false, false, false, false, false, false] rfl rfl (by kernel_rfl) (fun _ _ _ h => h) (Or.inl ⟨by rfl, ?_⟩) ?_ ?_
          rotate_left
          · intro w'
            go_simp
            with_reducible rfl
          rotate_left
          · (try simp only [Act.put, List.setIfInBounds_toArray, List.set_cons_zero, List.set_cons_succ, i64_w, i32_w])
            rfl
          refine pure_ (i := 10) (N := some 104) (v := ?_) (a' := ?_) #[true, true, true, true, true, true, true, true, true, true, true, false, false, false, false, false, false, false, false, false, false, false] rfl rfl (by kernel_rfl) (fun _ _ _ h => h) (Or.inl ⟨by rfl, ?_⟩) ?_ ?_
          rotate_left
          · intro w'
            go_simp
            with_reducible rfl
          rotate_left
          · (try simp only [Act.put, List.setIfInBounds_toArray, List.set_cons_zero, List.set_cons_succ, i64_w, i32_w])
            rfl
          refine pure_ (i := 11) (N := some 105) (v := ?_) (a' := ?_) #[true, true, true, true, true, true, true, true, true, true, true, true, false, false, false, false, false, false, false, false, false, false] rfl rfl (by kernel_rfl) (fun _ _ _ h => h) (Or.inl ⟨by rfl, ?_⟩) ?_ ?_
          rotate_left
          · intro w'
            go_simp
            with_reducible rfl
          rotate_left
          · (try simp only [Act.put, List.setIfInBounds_toArray, List.set_cons_zero, List.set_cons_succ, i64_w, i32_w])
            rfl
          refine pure_ (i := 12) (N := some 106) (v := ?_) (a' := ?_) #[true, true, true, true, true, true, true, true, true, true, true, true, true, false, false, false, false, false, false, false, false, false] rfl rfl (by kernel_rfl) (fun _ _ _ h => h) (Or.inl ⟨by rfl, ?_⟩) ?_ ?_
          rotate_left
          · intro w'
            go_simp
            with_reducible rfl
          rotate_left
          · (try simp only [Act.put, List.setIfInBounds_toArray, List.set_cons_zero, List.set_cons_succ, i64_w, i32_w])
            rfl
          refine pure_ (i := 13) (N := some 107) (v := ?_) (a' := ?_) #[true, true, true, true, true, true, true, true, true, true, true, true, true, true, false, false, false, false, false, false, false, false] rfl rfl (by kernel_rfl) (fun _ _ _ h => h) (Or.inl ⟨by rfl, ?_⟩) ?_ ?_
          rotate_left
          · intro w'
            go_simp
            with_reducible rfl
          rotate_left
          · (try simp only [Act.put, List.setIfInBounds_toArray, List.set_cons_zero, List.set_cons_succ, i64_w, i32_w])
            rfl
          refine two_ (i := 14) (j := 15) #[true, true, true, true, true, true, true, true, true, true, true, true, true, true, true, false, false, false, false, false, false, false] #[true, true, true, true, true, true, true, true, true, true, true, true, true, true, false, true, false, false, false, false, false, false] rfl rfl rfl rfl (by kernel_rfl) (by decide) (by decide) (fun K hK => ?_) (fun K hK => ?_)
          · skip
            refine value_ (N := some 108) (v := .agg (stL Q.1.s).toArray) (by rfl) rfl (run_load_at 37 (.tmp 107) (stL Q.1.s) (by rfl) (by rfl) _ Try.underlying37 rfl (len32 hr) (mstate_at HS 4 rfl)) ?_
            refine hK.out _ _ ⟨_, (HS.front 7 rfl).front 6 rfl⟩ (fun hHeld => ?_)
            clear hK K
            refine norm_ (a' := ?_) ?_ ?_
            rotate_left
            · show Act.put _ _ _ = _
              (try simp only [Act.put, List.setIfInBounds_toArray, List.set_cons_zero, List.set_cons_succ, i64_w, i32_w])
              rfl
            refine one_ (i := 15) (N := some 109) #[true, true, true, true, true, true, true, true, true, true, true, true, true, true, true, true, false, false, false, false, false, false] rfl rfl (by kernel_rfl) (by decide) (fun K hK => ?_)
            refine value_ (N := some 109) (v := .agg (stL Q.1.s).toArray) (by rfl) rfl (whole_run HS 0 rfl 37 (.tmp 11) (by rfl) (by rfl) _ Try.underlying37 rfl (size32 hr)) ?_
            refine hK.out _ _ ⟨_, (HS.front 7 rfl).front 6 rfl⟩ (fun hHeld => ?_)
            clear hK K
            refine norm_ (a' := ?_) ?_ ?_
            rotate_left
            · show Act.put _ _ _ = _
              (try simp only [Act.put, List.setIfInBounds_toArray, List.set_cons_zero, List.set_cons_succ, i64_w, i32_w])
              rfl
            refine pure_ (i := 16) (N := some 110) (v := ?_) (a' := ?_) #[true, true, true, true, true, true, true, true, true, true, true, true, true, true, true, true, true, false, false, false, false, false] rfl rfl (by kernel_rfl) (fun _ _ _ h => h) (Or.inl ⟨by rfl, ?_⟩) ?_ ?_
            rotate_left
            · intro w'
              refine run_neq_op hr (x := .tmp 108) (y := .tmp 109) ?_ ?_ ?_ w' <;> rfl
            rotate_left
            · (try simp only [Act.put, List.setIfInBounds_toArray, List.set_cons_zero, List.set_cons_succ, i64_w, i32_w])
              rfl
            refine pure_ (i := 17) (N := some 111) (v := ?_) (a' := ?_) #[true, true, true, true, true, true, true, true, true, true, true, true, true, true, true, true, true, true, false, false, false, false] rfl rfl (by kernel_rfl) (fun _ _ _ h => h) (Or.inl ⟨by rfl, ?_⟩) ?_ ?_
            rotate_left
            · intro w'
              go_simp
              with_reducible rfl
            rotate_left
            · (try simp only [Act.put, List.setIfInBounds_toArray, List.set_cons_zero, List.set_cons_succ, i64_w, i32_w])
              rfl
            refine pure_ (i := 18) (N := some 112) (v := ?_) (a' := ?_) #[true, true, true, true, true, true, true, true, true, true, true, true, true, true, true, true, true, true, true, false, false, false] rfl rfl (by kernel_rfl) (fun _ _ _ h => h) (Or.inl ⟨by rfl, ?_⟩) ?_ ?_
            rotate_left
            · intro w'
              go_simp
              with_reducible rfl
            rotate_left
            · (try simp only [Act.put, List.setIfInBounds_toArray, List.set_cons_zero, List.set_cons_succ, i64_w, i32_w])
              rfl
            refine pure_ (i := 19) (N := some 113) (v := ?_) (a' := ?_) #[true, true, true, true, true, true, true, true, true, true, true, true, true, true, true, true, true, true, true, true, false, false] rfl rfl (by kernel_rfl) (fun _ _ _ h => h) (Or.inl ⟨by rfl, ?_⟩) ?_ ?_
            rotate_left
            · intro w'
              go_simp
              with_reducible rfl
            rotate_left
            · (try simp only [Act.put, List.setIfInBounds_toArray, List.set_cons_zero, List.set_cons_succ, i64_w, i32_w])
              rfl
            refine one_ (i := 20) (N := some 114) #[true, true, true, true, true, true, true, true, true, true, true, true, true, true, true, true, true, true, true, true, true, false] rfl rfl (by kernel_rfl) (by decide) (fun K hK => ?_)
            refine goes_ Try.func17 (by kernel_rfl) rfl #[.pointer (some ⟨g, 0, none⟩)] (by rfl) rfl rfl (by (try simp only [List.map_toArray, List.map_cons, List.map_nil]); first | done | rfl) ?_
            refine (guesses_at (X := Q.1) HQB.out.1 4 rfl HS).mono ?_
            rw [HQB.out.2.2]
            clear HS
            rintro e w ⟨rfl, HS⟩
            refine ⟨_, rfl, ?_⟩
            refine hK.out _ _ ⟨_, (HS.front 7 rfl).front 6 rfl⟩ (fun hHeld => ?_)
            clear hK K
            refine norm_ (a' := ?_) ?_ ?_
            rotate_left
            · show Act.put _ _ _ = _
              (try simp only [Act.put, List.setIfInBounds_toArray, List.set_cons_zero, List.set_cons_succ, i64_w, i32_w])
              rfl
            refine pure_ (i := 21) (N := some 115) (v := ?_) (a' := ?_) #[true, true, true, true, true, true, true, true, true, true, true, true, true, true, true, true, true, true, true, true, true, true] rfl rfl (by kernel_rfl) (fun _ _ _ h => h) (Or.inl ⟨by rfl, ?_⟩) ?_ ?_
            rotate_left
            · intro w'
              go_simp
              with_reducible rfl
            rotate_left
            · (try simp only [Act.put, List.setIfInBounds_toArray, List.set_cons_zero, List.set_cons_succ, i64_w, i32_w])
              rfl
            refine done_ (by kernel_rfl) ?_
            clear hHeld
            go_wp2
            go_roundg k1
            case measure => omega
            case rel =>
              refine ⟨i + 1, Q.1, by rw [← HII.out]; first | rfl | (rw [w64 ((i : Int) + 1) (by omega) (by have := HIK.out; omega)]; rfl), ⟨by have := HIK.out; omega, by have := HJ.out; omega, HPG.out, HPL.out.sv⟩, ⟨(Sat.join HS).pick [0, 3, 5, 6, 7] (by decide)⟩⟩
          · skip
            refine value_ (N := some 109) (v := .agg (stL Q.1.s).toArray) (by rfl) rfl (whole_run HS 0 rfl 37 (.tmp 11) (by rfl) (by rfl) _ Try.underlying37 rfl (size32 hr)) ?_
            refine hK.out _ _ ⟨_, (HS.front 7 rfl).front 6 rfl⟩ (fun hHeld => ?_)
            clear hK K
            refine norm_ (a' := ?_) ?_ ?_
            rotate_left
            · show Act.put _ _ _ = _
              (try simp only [Act.put, List.setIfInBounds_toArray, List.set_cons_zero, List.set_cons_succ, i64_w, i32_w])
              rfl
            refine one_ (i := 14) (N := some 108) #[true, true, true, true, true, true, true, true, true, true, true, true, true, true, true, true, false, false, false, false, false, false] rfl rfl (by kernel_rfl) (by decide) (fun K hK => ?_)
            refine value_ (N := some 108) (v := .agg (stL Q.1.s).toArray) (by rfl) rfl (run_load_at 37 (.tmp 107) (stL Q.1.s) (by rfl) (by rfl) _ Try.underlying37 rfl (len32 hr) (mstate_at HS 4 rfl)) ?_
            refine hK.out _ _ ⟨_, (HS.front 7 rfl).front 6 rfl⟩ (fun hHeld => ?_)
            clear hK K
            refine norm_ (a' := ?_) ?_ ?_
            rotate_left
            · show Act.put _ _ _ = _
              (try simp only [Act.put, List.setIfInBounds_toArray, List.set_cons_zero, List.set_cons_succ, i64_w, i32_w])
              rfl
            refine pure_ (i := 16) (N := some 110) (v := ?_) (a' := ?_) #[true, true, true, true, true, true, true, true, true, true, true, true, true, true, true, true, true, false, false, false, false, false] rfl rfl (by kernel_rfl) (fun _ _ _ h => h) (Or.inl ⟨by rfl, ?_⟩) ?_ ?_
            rotate_left
            · intro w'
              refine run_neq_op hr (x := .tmp 108) (y := .tmp 109) ?_ ?_ ?_ w' <;> rfl
            rotate_left
            · (try simp only [Act.put, List.setIfInBounds_toArray, List.set_cons_zero, List.set_cons_succ, i64_w, i32_w])
              rfl
            refine pure_ (i := 17) (N := some 111) (v := ?_) (a' := ?_) #[true, true, true, true, true, true, true, true, true, true, true, true, true, true, true, true, true, true, false, false, false, false] rfl rfl (by kernel_rfl) (fun _ _ _ h => h) (Or.inl ⟨by rfl, ?_⟩) ?_ ?_
            rotate_left
            · intro w'
              go_simp
              with_reducible rfl
            rotate_left
            · (try simp only [Act.put, List.setIfInBounds_toArray, List.set_cons_zero, List.set_cons_succ, i64_w, i32_w])
              rfl
            refine pure_ (i := 18) (N := some 112) (v := ?_) (a' := ?_) #[true, true, true, true, true, true, true, true, true, true, true, true, true, true, true, true, true, true, true, false, false, false] rfl rfl (by kernel_rfl) (fun _ _ _ h => h) (Or.inl ⟨by rfl, ?_⟩) ?_ ?_
            rotate_left
            · intro w'
              go_simp
              with_reducible rfl
            rotate_left
            · (try simp only [Act.put, List.setIfInBounds_toArray, List.set_cons_zero, List.set_cons_succ, i64_w, i32_w])
              rfl
            refine pure_ (i := 19) (N := some 113) (v := ?_) (a' := ?_) #[true, true, true, true, true, true, true, true, true, true, true, true, true, true, true, true, true, true, true, true, false, false] rfl rfl (by kernel_rfl) (fun _ _ _ h => h) (Or.inl ⟨by rfl, ?_⟩) ?_ ?_
            rotate_left
            · intro w'
              go_simp
              with_reducible rfl
            rotate_left
            · (try simp only [Act.put, List.setIfInBounds_toArray, List.set_cons_zero, List.set_cons_succ, i64_w, i32_w])
              rfl
            refine one_ (i := 20) (N := some 114) #[true, true, true, true, true, true, true, true, true, true, true, true, true, true, true, true, true, true, true, true, true, false] rfl rfl (by kernel_rfl) (by decide) (fun K hK => ?_)
            refine goes_ Try.func17 (by kernel_rfl) rfl #[.pointer (some ⟨g, 0, none⟩)] (by rfl) rfl rfl (by (try simp only [List.map_toArray, List.map_cons, List.map_nil]); first | done | rfl) ?_
            refine (guesses_at (X := Q.1) HQB.out.1 4 rfl HS).mono ?_
            rw [HQB.out.2.2]
            clear HS
            rintro e w ⟨rfl, HS⟩
            refine ⟨_, rfl, ?_⟩
            refine hK.out _ _ ⟨_, (HS.front 7 rfl).front 6 rfl⟩ (fun hHeld => ?_)
            clear hK K
            refine norm_ (a' := ?_) ?_ ?_
            rotate_left
            · show Act.put _ _ _ = _
              (try simp only [Act.put, List.setIfInBounds_toArray, List.set_cons_zero, List.set_cons_succ, i64_w, i32_w])
              rfl
            refine pure_ (i := 21) (N := some 115) (v := ?_) (a' := ?_) #[true, true, true, true, true, true, true, true, true, true, true, true, true, true, true, true, true, true, true, true, true, true] rfl rfl (by kernel_rfl) (fun _ _ _ h => h) (Or.inl ⟨by rfl, ?_⟩) ?_ ?_
            rotate_left
            · intro w'
              go_simp
              with_reducible rfl
            rotate_left
            · (try simp only [Act.put, List.setIfInBounds_toArray, List.set_cons_zero, List.set_cons_succ, i64_w, i32_w])
              rfl
            refine done_ (by kernel_rfl) ?_
            clear hHeld
            go_wp2
            go_roundg k1
            case measure => omega
            case rel =>
              refine ⟨i + 1, Q.1, by rw [← HII.out]; first | rfl | (rw [w64 ((i : Int) + 1) (by omega) (by have := HIK.out; omega)]; rfl), ⟨by have := HIK.out; omega, by have := HJ.out; omega, HPG.out, HPL.out.sv⟩, ⟨(Sat.join HS).pick [0, 3, 5, 6, 7] (by decide)⟩⟩
      · have hkk : i = deeds.length := by have := HJ.out.1; omega
        subst hkk
        have hkb : decide (deeds.length < deeds.length) = false := decide_eq_false (Nat.lt_irrefl _)
        go_wp2
        go_ret
        exact ⟨rfl, HS.old 4 rfl⟩

end
theorem honestS_walk {H : Type} {enc : TypeId × Value → H} {d0 d1 d3 : DataW H} {p0 p1 p3 : List MemPlace} (v0 v1 : Value) (a2 : Int) (v3 : Value) (W : World) (h0 : Arg enc Try.prog W 25 v0 d0 p0) (h1 : Arg enc Try.prog W 26 v1 d1 p1) (_ : (Lit.int .i64 a2).wf = true) (h3 : Arg enc Try.prog W 27 v3 d3 p3) :
    Calls Try.prog 3 #[v0, v1, .int .i64 a2, v3] W fun e w' => e = .returned (.bool true) ∧ Below W.heap.size W w' := by
  obtain ⟨Ac, cc, code, Aa, ca, arrs, st, mem, rfl, hcc, hca, hC, hA, _⟩ := open_img h0
  obtain ⟨Ai, ci, ins, rfl, hci, hI⟩ := open_rows h1
  obtain ⟨As, cs, deeds, rfl, _, hS⟩ := open_ints h3
  obtain ⟨b, hb, hF⟩ := few_tells code arrs st mem ins
  cases b with
  | false => exact honest_few a2 W hC hcc hA hca hI hci hb
  | true =>
    by_cases hx : 150 < (deeds.length : Int)
    · exact honest_long a2 W hC hcc hA hca hI hci hb (decide_eq_true hx)
    · exact honest_main a2 W hC hcc hA hca hI hci hb (hF rfl) hS (decide_eq_false hx)
end Go.Proofs.Ytiafbpbbhgpjkaa.B
