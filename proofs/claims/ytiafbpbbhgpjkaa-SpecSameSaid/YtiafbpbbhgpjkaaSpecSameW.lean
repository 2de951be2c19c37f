/- SpecSame: the same deeds show the same, for every image, every input, every window and every script. -/
import Derived.Test.YtiafbpbbhgpjkaaSpecLaw
namespace Go.Proofs.Ytiafbpbbhgpjkaa.B
open Go.RowKit Go.Proofs.Ytiafbpbbhgpjkaa.Mine Go.Proofs.Ytiafbpbbhgpjkaa.Sep Go.Proofs.YtiafbpbbhgpjkaaW.PrintWords Go.Proofs.YtiafbpbbhgpjkaaW.PrintLast Go.Proofs.YtiafbpbbhgpjkaaW.PrintMore
set_option linter.unusedVariables false
set_option linter.unusedSimpArgs false
section
variable {Ac : Option Addr} {cc : Nat} {code : List S48} {Aa : Option Addr} {ca : Nat} {arrs : List S72} {st me : Int} {Ai : Option Addr} {ci : Nat} {ins : List (List Int)} {As : Option Addr} {cs : Nat} {script : List (Int × Int)}

set_option maxRecDepth 100000 in
set_option maxHeartbeats 1000000 in
theorem same_few (a2 : Int) (W : World) (hC : Kd.C k48 W Ac code.length code) (hcc : code.length ≤ cc) (hA : Kd.C k72 W Aa arrs.length arrs) (hca : arrs.length ≤ ca) (hI : Kd.C (Kd.slice 2 (Kd.int .i64)) W Ai ins.length ins) (hci : ins.length ≤ ci) (hf : palingslaw19_Few.f 500 code arrs st me ins = some false) :
    Calls Try.prog 5 #[.agg #[.slice Ac code.length cc, .slice Aa arrs.length ca, .int .i64 st, .int .i64 me], .slice Ai ins.length ci, .int .i64 a2, .slice As script.length cs] W fun e W' => e = .returned (.bool true) ∧ Below W.heap.size W W' := by
  have HS := Sat.start W
  have HF := Aside0.mk hf
  clear hf
  go_enter Try.func5, Try.ntmps5
  go_upto_region 1 with ((with_reducible refine gate_dst (N := 4) rfl ?_); go_must (refine ev_box HS rfl (N := 4) rfl (cs := #[.slice Ac code.length cc, .slice Aa arrs.length ca, .int .i64 st, .int .i64 me]) (t := 25) ?hrun ?_); (case hrun => first | (go_simp; done) | (go_simp; rfl)); clear HS; intro gb w HS)
  go_upto_region 3 with (go_at_call 9; refine (head_calls HS).mono ?_; rintro e w_ ⟨rfl, HS_⟩; clear HS; have HS := HS_; clear HS_)
  have cb := HS.cell 0 rfl
  have hb0 := HS.old 1 rfl
  have HC := Aside0.mk (Kd.C_below hC hb0)
  have HA := Aside0.mk (Kd.C_below hA hb0)
  have HI := Aside0.mk (Kd.C_below hI hb0)
  clear hb0
  go_wp2_with (first | ((with_reducible refine gate_load (ty := 25) (p := 4) rfl ?_); go_must (refine ev_load HS 0 rfl rfl 25 (.tmp 4) rfl (N := 17) rfl rfl _ Try.underlying25 rfl (by kernel_rfl) ?_)) | (go_at_call 10; (with_reducible refine (palingslaw19_Few.calls 500 _ _ code _ _ arrs st me _ _ ins false _ HC.out hcc HA.out hca HI.out hci HF.out).mono ?_); rintro e w2 ⟨rfl, hb⟩; replace HS := HS.below hb; clear hb; have cb := HS.cell 0 rfl))
  go_ret
  exact ⟨rfl, HS.old 1 rfl⟩

set_option maxRecDepth 100000 in
set_option maxHeartbeats 1000000 in
theorem same_long (a2 : Int) (W : World) (hC : Kd.C k48 W Ac code.length code) (hcc : code.length ≤ cc) (hA : Kd.C k72 W Aa arrs.length arrs) (hca : arrs.length ≤ ca) (hI : Kd.C (Kd.slice 2 (Kd.int .i64)) W Ai ins.length ins) (hci : ins.length ≤ ci) (hf : palingslaw19_Few.f 500 code arrs st me ins = some true) (hx : decide (100 < (script.length : Int)) = true) :
    Calls Try.prog 5 #[.agg #[.slice Ac code.length cc, .slice Aa arrs.length ca, .int .i64 st, .int .i64 me], .slice Ai ins.length ci, .int .i64 a2, .slice As script.length cs] W fun e W' => e = .returned (.bool true) ∧ Below W.heap.size W W' := by
  have HS := Sat.start W
  have HF := Aside0.mk hf
  clear hf
  go_enter Try.func5, Try.ntmps5
  go_upto_region 1 with ((with_reducible refine gate_dst (N := 4) rfl ?_); go_must (refine ev_box HS rfl (N := 4) rfl (cs := #[.slice Ac code.length cc, .slice Aa arrs.length ca, .int .i64 st, .int .i64 me]) (t := 25) ?hrun ?_); (case hrun => first | (go_simp; done) | (go_simp; rfl)); clear HS; intro gb w HS)
  go_upto_region 3 with (go_at_call 9; refine (head_calls HS).mono ?_; rintro e w_ ⟨rfl, HS_⟩; clear HS; have HS := HS_; clear HS_)
  have cb := HS.cell 0 rfl
  have hb0 := HS.old 1 rfl
  have HC := Aside0.mk (Kd.C_below hC hb0)
  have HA := Aside0.mk (Kd.C_below hA hb0)
  have HI := Aside0.mk (Kd.C_below hI hb0)
  clear hb0
  go_wp2_with (first | ((with_reducible refine gate_load (ty := 25) (p := 4) rfl ?_); go_must (refine ev_load HS 0 rfl rfl 25 (.tmp 4) rfl (N := 17) rfl rfl _ Try.underlying25 rfl (by kernel_rfl) ?_)) | (go_at_call 10; (with_reducible refine (palingslaw19_Few.calls 500 _ _ code _ _ arrs st me _ _ ins true _ HC.out hcc HA.out hca HI.out hci HF.out).mono ?_); rintro e w2 ⟨rfl, hb⟩; replace HS := HS.below hb; clear hb; have cb := HS.cell 0 rfl))
  go_ret
  exact ⟨rfl, HS.old 1 rfl⟩

set_option maxRecDepth 100000 in
set_option maxHeartbeats 1000000 in
theorem same_main (a2 : Int) (W : World) (hC : Kd.C k48 W Ac code.length code) (hcc : code.length ≤ cc) (hA : Kd.C k72 W Aa arrs.length arrs) (hca : arrs.length ≤ ca) (hI : Kd.C (Kd.slice 2 (Kd.int .i64)) W Ai ins.length ins) (hci : ins.length ≤ ci) (hf : palingslaw19_Few.f 500 code arrs st me ins = some true) (hF : Fews code arrs st me ins) (hScr : Kd.C kDeed W As script.length script) (hx : decide (100 < (script.length : Int)) = false) :
    Calls Try.prog 5 #[.agg #[.slice Ac code.length cc, .slice Aa arrs.length ca, .int .i64 st, .int .i64 me], .slice Ai ins.length ci, .int .i64 a2, .slice As script.length cs] W fun e W' => e = .returned (.bool true) ∧ Below W.heap.size W W' := by
  have HS := Sat.start W
  have HF := Aside0.mk hf
  clear hf
  obtain ⟨B, hB⟩ : ∃ B, B = Go.bits .and .i64 a2 31 := ⟨_, rfl⟩
  have hB0 : 0 ≤ B := by rw [hB, and31]; omega
  have hB1 : B ≤ 31 := by rw [hB, and31]; omega
  have hbits : Go.bits .and .i64 a2 31 = B := hB.symm
  obtain ⟨win, hwin⟩ : ∃ win, 1 + B = win := ⟨_, rfl⟩
  have hw : wrap64 win = win := w64 _ (by omega) (by omega)
  have hw0 : 1 ≤ win := by omega
  have hw1 : win ≤ 1000 := by omega
  clear hB
  have HFI := Aside0.mk (fine_of (ins := ins) hF.right)
  have hsl : script.length ≤ 1000 := by have := of_decide_eq_false hx; omega
  obtain ⟨R, hR⟩ : ∃ R, R = (runM code (sitesF code 0) win (newX st me arrs ins) script) := ⟨_, rfl⟩
  have hiv := runM_good code (sitesF code 0) win (beginS st, startF ins arrs me) script (newX st me arrs ins) 0 (new_inv code st me arrs ins) (by omega)
  have hil := runM_len code (sitesF code 0) win script (newX st me arrs ins)
  rw [← hR] at hiv hil
  have HRB := Aside0.mk (show R.1.n ≤ 1000000 ∧ R.1.s.regs.length = 64 ∧ R.2.length ≤ 1000000 from ⟨by have := hiv.cnt; omega, hiv.regs, by omega⟩)
  have HRE := Aside0.mk hR
  clear hR hiv hil
  go_enter Try.func5, Try.ntmps5
  go_upto_region 1 with ((with_reducible refine gate_dst (N := 4) rfl ?_); go_must (refine ev_box HS rfl (N := 4) rfl (cs := #[.slice Ac code.length cc, .slice Aa arrs.length ca, .int .i64 st, .int .i64 me]) (t := 25) ?hrun ?_); (case hrun => first | (go_simp; done) | (go_simp; rfl)); clear HS; intro gb w HS)
  go_upto_region 3 with (go_at_call 9; refine (head_calls HS).mono ?_; rintro e w_ ⟨rfl, HS_⟩; clear HS; have HS := HS_; clear HS_)
  have cb := HS.cell 0 rfl
  have hb0 := HS.old 1 rfl
  have HC := Aside0.mk (Kd.C_below hC hb0)
  have HA := Aside0.mk (Kd.C_below hA hb0)
  have HI := Aside0.mk (Kd.C_below hI hb0)
  clear hb0
  go_upto_region 5 with (first | ((with_reducible refine gate_load (ty := 25) (p := 4) rfl ?_); go_must (refine ev_load HS 0 rfl rfl 25 (.tmp 4) rfl (N := 17) rfl rfl _ Try.underlying25 rfl (by kernel_rfl) ?_)) | (go_at_call 10; (with_reducible refine (palingslaw19_Few.calls 500 _ _ code _ _ arrs st me _ _ ins true _ HC.out hcc HA.out hca HI.out hci HF.out).mono ?_); rintro e w2 ⟨rfl, hb⟩; replace HS := HS.below hb; clear hb; have cb := HS.cell 0 rfl))
  clear HC HA HI
  have HR1 := Aside0.mk (show Calls Try.prog 18 #[.agg #[.slice Ac code.length cc, .slice Aa arrs.length ca, .int .i64 st, .int .i64 me], .slice Ai ins.length ci, .int .i64 win, .slice As script.length cs] w2 (fun e w' => ∃ g Am cm At ct v, e = .returned (.tuple #[.pointer (some ⟨g, 0, none⟩), v, .int .i64 0]) ∧
      Sat W w' (mch g Am me.toNat cm (.slice Ac code.length cc) (.slice At (sitesF code 0).length ct) win R.1 :: row k60 60 v R.2 :: row IW 3 (.slice At (sitesF code 0).length ct) (sitesF code 0) :: _)) from by
    rw [HRE.out]
    exact srun_calls ⟨fun w h => Kd.C_below hC (h.old 1 rfl), hcc, fun w h => Kd.C_below hA (h.old 1 rfl), hca, fun w h => Kd.C_below hI (h.old 1 rfl)⟩ HFI.out hw0 hw1 (fun w h => Kd.C_below hScr (h.old 1 rfl)) hsl HS)
  go_upto_region 6 with (first | ((with_reducible refine gate_load (ty := 25) (p := 4) rfl ?_); go_must (refine ev_load HS 0 rfl rfl 25 (.tmp 4) rfl (N := 27) rfl rfl _ Try.underlying25 rfl (by kernel_rfl) ?_)) | (go_at_call 18; refine (HR1.out).mono ?_; rintro e w_ ⟨g1, A1, c1, T1, d1, v1, rfl, HS_⟩; clear HS HR1; have HS := HS_; clear HS_; obtain ⟨V1, e1, rfl⟩ := HS.slice 1 rfl))
  have HR2 := Aside0.mk (show Calls Try.prog 18 #[.agg #[.slice Ac code.length cc, .slice Aa arrs.length ca, .int .i64 st, .int .i64 me], .slice Ai ins.length ci, .int .i64 win, .slice As script.length cs] w_ (fun e w' => ∃ g Am cm At ct v, e = .returned (.tuple #[.pointer (some ⟨g, 0, none⟩), v, .int .i64 0]) ∧
      Sat W w' (mch g Am me.toNat cm (.slice Ac code.length cc) (.slice At (sitesF code 0).length ct) win R.1 :: row k60 60 v R.2 :: row IW 3 (.slice At (sitesF code 0).length ct) (sitesF code 0) :: _)) from by
    rw [HRE.out]
    exact srun_calls ⟨fun w h => Kd.C_below hC (h.old 4 rfl), hcc, fun w h => Kd.C_below hA (h.old 4 rfl), hca, fun w h => Kd.C_below hI (h.old 4 rfl)⟩ HFI.out hw0 hw1 (fun w h => Kd.C_below hScr (h.old 4 rfl)) hsl HS)
  go_upto_region 7 with (first | ((with_reducible refine gate_load (ty := 25) (p := 4) rfl ?_); go_must (refine ev_load HS 3 rfl rfl 25 (.tmp 4) rfl (N := 38) rfl rfl _ Try.underlying25 rfl (by kernel_rfl) ?_)) | (go_at_call 18; refine (HR2.out).mono ?_; rintro e w_ ⟨g2, A2, c2, T2, d2, v2, rfl, HS_⟩; clear HS HR2; have HS := HS_; clear HS_; obtain ⟨V2, e2, rfl⟩ := HS.slice 1 rfl))
  have hRr := HRB.out.2.1
  refine start_ (n := 30) (S := fun w' => Sat W w' [mch g2 A2 me.toNat c2 (.slice Ac code.length cc) (.slice T2 (sitesF code 0).length d2) win R.1, row k60 60 (.slice V2 R.2.length e2) R.2, row IW 3 (.slice T2 (sitesF code 0).length d2) (sitesF code 0), mch g1 A1 me.toNat c1 (.slice Ac code.length cc) (.slice T1 (sitesF code 0).length d1) win R.1, row k60 60 (.slice V1 R.2.length e1) R.2, row IW 3 (.slice T1 (sitesF code 0).length d1) (sitesF code 0), blk gb 25 #[.slice Ac code.length cc, .slice Aa arrs.length ca, .int .i64 st, .int .i64 me], old W]) (ds := []) #[false, false, false, false, false, false, false, false, false, false, false, false, false, false, false, false, false, false, false, false, false, false, false, false, false, false, false, false, false, false] (by kernel_rfl) rfl rfl HS.drew (fun hHeld => ?_)
  replace HS := HS.drew
  generalize World.drew w_ = w at HS hHeld ⊢
  refine pure_ (i := 0) (N := some 48) (v := ?_) (a' := ?_) #[true, false, false, false, false, false, false, false, false, false, false, false, false, false, false, false, false, false, false, false, false, false, false, false, false, false, false, false, false, false] rfl rfl (by kernel_rfl) (fun _ _ _ h => h) (Or.inl ⟨by rfl, ?_⟩) ?_ ?_
  rotate_left
  · intro w'
    go_simp
    with_reducible rfl
  rotate_left
  · (try simp only [Act.put, List.setIfInBounds_toArray, List.set_cons_zero, List.set_cons_succ, i64_w, i32_w])
    rfl
  refine pure_ (i := 1) (N := some 49) (v := ?_) (a' := ?_) #[true, true, false, false, false, false, false, false, false, false, false, false, false, false, false, false, false, false, false, false, false, false, false, false, false, false, false, false, false, false] rfl rfl (by kernel_rfl) (fun _ _ _ h => h) (Or.inl ⟨by rfl, ?_⟩) ?_ ?_
  rotate_left
  · intro w'
    go_simp
    with_reducible rfl
  rotate_left
  · (try simp only [Act.put, List.setIfInBounds_toArray, List.set_cons_zero, List.set_cons_succ, i64_w, i32_w])
    rfl
  refine pure_ (i := 2) (N := some 50) (v := ?_) (a' := ?_) #[true, true, true, false, false, false, false, false, false, false, false, false, false, false, false, false, false, false, false, false, false, false, false, false, false, false, false, false, false, false] rfl rfl (by kernel_rfl) (fun _ _ _ h => h) (Or.inl ⟨by rfl, ?_⟩) ?_ ?_
  rotate_left
  · intro w'
    go_simp
    with_reducible rfl
  rotate_left
  · (try simp only [Act.put, List.setIfInBounds_toArray, List.set_cons_zero, List.set_cons_succ, i64_w, i32_w])
    rfl
  refine pure_ (i := 3) (N := some 51) (v := ?_) (a' := ?_) #[true, true, true, true, false, false, false, false, false, false, false, false, false, false, false, false, false, false, false, false, false, false, false, false, false, false, false, false, false, false] rfl rfl (by kernel_rfl) (fun _ _ _ h => h) (Or.inl ⟨by rfl, ?_⟩) ?_ ?_
  rotate_left
  · intro w'
    go_simp
    with_reducible rfl
  rotate_left
  · (try simp only [Act.put, List.setIfInBounds_toArray, List.set_cons_zero, List.set_cons_succ, i64_w, i32_w])
    rfl
  refine pure_ (i := 4) (N := some 52) (v := ?_) (a' := ?_) #[true, true, true, true, true, false, false, false, false, false, false, false, false, false, false, false, false, false, false, false, false, false, false, false, false, false, false, false, false, false] rfl rfl (by kernel_rfl) (fun _ _ _ h => h) (Or.inl ⟨by rfl, ?_⟩) ?_ ?_
  rotate_left
  · intro w'
    go_simp
    with_reducible rfl
  rotate_left
  · (try simp only [Act.put, List.setIfInBounds_toArray, List.set_cons_zero, List.set_cons_succ, i64_w, i32_w])
    rfl
  refine pure_ (i := 5) (N := some 53) (v := ?_) (a' := ?_) #[true, true, true, true, true, true, false, false, false, false, false, false, false, false, false, false, false, false, false, false, false, false, false, false, false, false, false, false, false, false] rfl rfl (by kernel_rfl) (fun _ _ _ h => h) (Or.inl ⟨by rfl, ?_⟩) ?_ ?_
  rotate_left
  · intro w'
    go_simp
    with_reducible rfl
  rotate_left
  · (try simp only [Act.put, List.setIfInBounds_toArray, List.set_cons_zero, List.set_cons_succ, i64_w, i32_w])
    rfl
  refine pure_ (i := 6) (N := some 54) (v := ?_) (a' := ?_) #[true, true, true, true, true, true, true, false, false, false, false, false, false, false, false, false, false, false, false, false, false, false, false, false, false, false, false, false, false, false] rfl rfl (by kernel_rfl) (fun _ _ _ h => h) (Or.inl ⟨by rfl, ?_⟩) ?_ ?_
  rotate_left
  · intro w'
    go_simp
    with_reducible rfl
  rotate_left
  · (try simp only [Act.put, List.setIfInBounds_toArray, List.set_cons_zero, List.set_cons_succ, i64_w, i32_w])
    rfl
  refine pure_ (i := 7) (N := some 55) (v := ?_) (a' := ?_) #[true, true, true, true, true, true, true, true, false, false, false, false, false, false, false, false, false, false, false, false, false, false, false, false, false, false, false, false, false, false] rfl rfl (by kernel_rfl) (fun _ _ _ h => h) (Or.inl ⟨by rfl, ?_⟩) ?_ ?_
  rotate_left
  · intro w'
    go_simp
    with_reducible rfl
  rotate_left
  · (try simp only [Act.put, List.setIfInBounds_toArray, List.set_cons_zero, List.set_cons_succ, i64_w, i32_w])
    rfl
  refine pure_ (i := 8) (N := some 56) (v := ?_) (a' := ?_) #[true, true, true, true, true, true, true, true, true, false, false, false, false, false, false, false, false, false, false, false, false, false, false, false, false, false, false, false, false, false] rfl rfl (by kernel_rfl) (fun _ _ _ h => h) (Or.inl ⟨by rfl, ?_⟩) ?_ ?_
  rotate_left
  · intro w'
    go_simp
    with_reducible rfl
  rotate_left
  · (try simp only [Act.put, List.setIfInBounds_toArray, List.set_cons_zero, List.set_cons_succ, i64_w, i32_w])
    rfl
  refine pure_ (i := 9) (N := some 57) (v := ?_) (a' := ?_) #[true, true, true, true, true, true, true, true, true, true, false, false, false, false, false, false, false, false, false, false, false, false, false, false, false, false, false, false, false, false] rfl rfl (by kernel_rfl) (fun _ _ _ h => h) (Or.inl ⟨by rfl, ?_⟩) ?_ ?_
  rotate_left
  · intro w'
    go_simp
    with_reducible rfl
  rotate_left
  · (try simp only [Act.put, List.setIfInBounds_toArray, List.set_cons_zero, List.set_cons_succ, i64_w, i32_w])
    rfl
  refine take_ (i := 10) (N := some 58) (v := ?_) (a' := ?_) #[true, true, true, true, true, true, true, true, true, true, true, false, false, false, false, false, false, false, false, false, false, false, false, false, false, false, false, false, false, false] rfl rfl (by kernel_rfl) (fun _ _ _ h => h) (Or.inl ⟨by rfl, ?_⟩) hHeld ?_ ?_
  rotate_left
  · rintro w' hS
    refine run_load_at 37 (.tmp 57) (stL R.1.s) ?_ ?_ _ Try.underlying37 rfl (len32 hRr) (mstate_at hS 3 rfl) <;> rfl
  rotate_left
  · (try simp only [Act.put, List.setIfInBounds_toArray, List.set_cons_zero, List.set_cons_succ, i64_w, i32_w])
    rfl
  refine pure_ (i := 11) (N := some 59) (v := ?_) (a' := ?_) #[true, true, true, true, true, true, true, true, true, true, true, true, false, false, false, false, false, false, false, false, false, false, false, false, false, false, false, false, false, false] rfl rfl (by kernel_rfl) (fun _ _ _ h => h) (Or.inl ⟨by rfl, ?_⟩) ?_ ?_
  rotate_left
  · intro w'
    go_simp
    with_reducible rfl
  rotate_left
  · (try simp only [Act.put, List.setIfInBounds_toArray, List.set_cons_zero, List.set_cons_succ, i64_w, i32_w])
    rfl
  refine pure_ (i := 12) (N := some 60) (v := ?_) (a' := ?_) #[true, true, true, true, true, true, true, true, true, true, true, true, true, false, false, false, false, false, false, false, false, false, false, false, false, false, false, false, false, false] rfl rfl (by kernel_rfl) (fun _ _ _ h => h) (Or.inl ⟨by rfl, ?_⟩) ?_ ?_
  rotate_left
  · intro w'
    go_simp
    with_reducible rfl
  rotate_left
  · (try simp only [Act.put, List.setIfInBounds_toArray, List.set_cons_zero, List.set_cons_succ, i64_w, i32_w])
    rfl
  refine pure_ (i := 13) (N := some 61) (v := ?_) (a' := ?_) #[true, true, true, true, true, true, true, true, true, true, true, true, true, true, false, false, false, false, false, false, false, false, false, false, false, false, false, false, false, false] rfl rfl (by kernel_rfl) (fun _ _ _ h => h) (Or.inl ⟨by rfl, ?_⟩) ?_ ?_
  rotate_left
  · intro w'
    go_simp
    with_reducible rfl
  rotate_left
  · (try simp only [Act.put, List.setIfInBounds_toArray, List.set_cons_zero, List.set_cons_succ, i64_w, i32_w])
    rfl
  refine take_ (i := 14) (N := some 62) (v := ?_) (a' := ?_) #[true, true, true, true, true, true, true, true, true, true, true, true, true, true, true, false, false, false, false, false, false, false, false, false, false, false, false, false, false, false] rfl rfl (by kernel_rfl) (fun _ _ _ h => h) (Or.inl ⟨by rfl, ?_⟩) hHeld ?_ ?_
  rotate_left
  · rintro w' hS
    refine run_load_at 37 (.tmp 61) (stL R.1.s) ?_ ?_ _ Try.underlying37 rfl (len32 hRr) (mstate_at hS 0 rfl) <;> rfl
  rotate_left
  · (try simp only [Act.put, List.setIfInBounds_toArray, List.set_cons_zero, List.set_cons_succ, i64_w, i32_w])
    rfl
  refine pure_ (i := 15) (N := some 63) (v := ?_) (a' := ?_) #[true, true, true, true, true, true, true, true, true, true, true, true, true, true, true, true, false, false, false, false, false, false, false, false, false, false, false, false, false, false] rfl rfl (by kernel_rfl) (fun _ _ _ h => h) (Or.inl ⟨by rfl, ?_⟩) ?_ ?_
  rotate_left
  · intro w'
    refine run_eql_op hRr (x := .tmp 58) (y := .tmp 62) ?_ ?_ ?_ w' <;> rfl
  rotate_left
  · (try simp only [Act.put, List.setIfInBounds_toArray, List.set_cons_zero, List.set_cons_succ, i64_w, i32_w])
    rfl
  refine pure_ (i := 16) (N := some 64) (v := ?_) (a' := ?_) #[true, true, true, true, true, true, true, true, true, true, true, true, true, true, true, true, true, false, false, false, false, false, false, false, false, false, false, false, false, false] rfl rfl (by kernel_rfl) (fun _ _ _ h => h) (Or.inl ⟨by rfl, ?_⟩) ?_ ?_
  rotate_left
  · intro w'
    go_simp
    with_reducible rfl
  rotate_left
  · (try simp only [Act.put, List.setIfInBounds_toArray, List.set_cons_zero, List.set_cons_succ, i64_w, i32_w])
    rfl
  refine pure_ (i := 17) (N := some 65) (v := ?_) (a' := ?_) #[true, true, true, true, true, true, true, true, true, true, true, true, true, true, true, true, true, true, false, false, false, false, false, false, false, false, false, false, false, false] rfl rfl (by kernel_rfl) (fun _ _ _ h => h) (Or.inl ⟨by rfl, ?_⟩) ?_ ?_
  rotate_left
  · intro w'
    go_simp
    with_reducible rfl
  rotate_left
  · (try simp only [Act.put, List.setIfInBounds_toArray, List.set_cons_zero, List.set_cons_succ, i64_w, i32_w])
    rfl
  refine pure_ (i := 18) (N := some 66) (v := ?_) (a' := ?_) #[true, true, true, true, true, true, true, true, true, true, true, true, true, true, true, true, true, true, true, false, false, false, false, false, false, false, false, false, false, false] rfl rfl (by kernel_rfl) (fun _ _ _ h => h) (Or.inl ⟨by rfl, ?_⟩) ?_ ?_
  rotate_left
  · intro w'
    go_simp
    with_reducible rfl
  rotate_left
  · (try simp only [Act.put, List.setIfInBounds_toArray, List.set_cons_zero, List.set_cons_succ, i64_w, i32_w])
    rfl
  refine pure_ (i := 20) (N := some 68) (v := ?_) (a' := ?_) #[true, true, true, true, true, true, true, true, true, true, true, true, true, true, true, true, true, true, true, false, true, false, false, false, false, false, false, false, false, false] rfl rfl (by kernel_rfl) (fun _ _ _ h => h) (Or.inl ⟨by rfl, ?_⟩) ?_ ?_
  rotate_left
  · intro w'
    go_simp
    with_reducible rfl
  rotate_left
  · (try simp only [Act.put, List.setIfInBounds_toArray, List.set_cons_zero, List.set_cons_succ, i64_w, i32_w])
    rfl
  refine one_ (i := 19) (N := some 67) #[true, true, true, true, true, true, true, true, true, true, true, true, true, true, true, true, true, true, true, true, true, false, false, false, false, false, false, false, false, false] rfl rfl (by kernel_rfl) (by decide) (fun K hK => ?_)
  refine goes_ Try.func17 (by kernel_rfl) rfl #[.pointer (some ⟨g1, 0, none⟩)] (by rfl) rfl rfl (by (try simp only [List.map_toArray, List.map_cons, List.map_nil]); first | done | rfl) ?_
  refine (guesses_at HRB.out.1 3 rfl HS).mono ?_
  clear HS
  rintro e w ⟨rfl, HS⟩
  refine ⟨_, rfl, ?_⟩
  refine hK.out _ _ HS (fun hHeld => ?_)
  clear hK K
  refine norm_ (a' := ?_) ?_ ?_
  rotate_left
  · show Act.put _ _ _ = _
    (try simp only [Act.put, List.setIfInBounds_toArray, List.set_cons_zero, List.set_cons_succ, i64_w, i32_w])
    rfl
  refine one_ (i := 21) (N := some 69) #[true, true, true, true, true, true, true, true, true, true, true, true, true, true, true, true, true, true, true, true, true, true, false, false, false, false, false, false, false, false] rfl rfl (by kernel_rfl) (by decide) (fun K hK => ?_)
  refine goes_ Try.func17 (by kernel_rfl) rfl #[.pointer (some ⟨g2, 0, none⟩)] (by rfl) rfl rfl (by (try simp only [List.map_toArray, List.map_cons, List.map_nil]); first | done | rfl) ?_
  refine (guesses_at HRB.out.1 0 rfl HS).mono ?_
  clear HS
  rintro e w ⟨rfl, HS⟩
  refine ⟨_, rfl, ?_⟩
  refine hK.out _ _ HS (fun hHeld => ?_)
  clear hK K
  refine norm_ (a' := ?_) ?_ ?_
  rotate_left
  · show Act.put _ _ _ = _
    (try simp only [Act.put, List.setIfInBounds_toArray, List.set_cons_zero, List.set_cons_succ, i64_w, i32_w])
    rfl
  refine pure_ (i := 22) (N := some 70) (v := ?_) (a' := ?_) #[true, true, true, true, true, true, true, true, true, true, true, true, true, true, true, true, true, true, true, true, true, true, true, false, false, false, false, false, false, false] rfl rfl (by kernel_rfl) (fun _ _ _ h => h) (Or.inl ⟨by rfl, ?_⟩) ?_ ?_
  rotate_left
  · intro w'
    go_simp
    with_reducible rfl
  rotate_left
  · (try simp only [Act.put, List.setIfInBounds_toArray, List.set_cons_zero, List.set_cons_succ, i64_w, i32_w])
    rfl
  refine pure_ (i := 23) (N := some 71) (v := ?_) (a' := ?_) #[true, true, true, true, true, true, true, true, true, true, true, true, true, true, true, true, true, true, true, true, true, true, true, true, false, false, false, false, false, false] rfl rfl (by kernel_rfl) (fun _ _ _ h => h) (Or.inl ⟨by rfl, ?_⟩) ?_ ?_
  rotate_left
  · intro w'
    go_simp
    with_reducible rfl
  rotate_left
  · (try simp only [Act.put, List.setIfInBounds_toArray, List.set_cons_zero, List.set_cons_succ, i64_w, i32_w])
    rfl
  refine pure_ (i := 24) (N := some 72) (v := ?_) (a' := ?_) #[true, true, true, true, true, true, true, true, true, true, true, true, true, true, true, true, true, true, true, true, true, true, true, true, true, false, false, false, false, false] rfl rfl (by kernel_rfl) (fun _ _ _ h => h) (Or.inl ⟨by rfl, ?_⟩) ?_ ?_
  rotate_left
  · intro w'
    go_simp
    with_reducible rfl
  rotate_left
  · (try simp only [Act.put, List.setIfInBounds_toArray, List.set_cons_zero, List.set_cons_succ, i64_w, i32_w])
    rfl
  refine pure_ (i := 25) (N := some 73) (v := ?_) (a' := ?_) #[true, true, true, true, true, true, true, true, true, true, true, true, true, true, true, true, true, true, true, true, true, true, true, true, true, true, false, false, false, false] rfl rfl (by kernel_rfl) (fun _ _ _ h => h) (Or.inl ⟨by rfl, ?_⟩) ?_ ?_
  rotate_left
  · intro w'
    go_simp
    with_reducible rfl
  rotate_left
  · (try simp only [Act.put, List.setIfInBounds_toArray, List.set_cons_zero, List.set_cons_succ, i64_w, i32_w])
    rfl
  refine pure_ (i := 26) (N := some 74) (v := ?_) (a' := ?_) #[true, true, true, true, true, true, true, true, true, true, true, true, true, true, true, true, true, true, true, true, true, true, true, true, true, true, true, false, false, false] rfl rfl (by kernel_rfl) (fun _ _ _ h => h) (Or.inl ⟨by rfl, ?_⟩) ?_ ?_
  rotate_left
  · intro w'
    go_simp
    with_reducible rfl
  rotate_left
  · (try simp only [Act.put, List.setIfInBounds_toArray, List.set_cons_zero, List.set_cons_succ, i64_w, i32_w])
    rfl
  refine one_ (i := 27) (N := some 75) #[true, true, true, true, true, true, true, true, true, true, true, true, true, true, true, true, true, true, true, true, true, true, true, true, true, true, true, true, false, false] rfl rfl (by kernel_rfl) (by decide) (fun K hK => ?_)
  refine goes_ Try.func14 (by kernel_rfl) rfl #[.slice V1 R.2.length e1, .slice V2 R.2.length e2] (by rfl) rfl rfl (by (try simp only [List.map_toArray, List.map_cons, List.map_nil]); first | done | rfl) ?_
  refine (palingslaw19_Seen.calls 1000001 _ _ R.2 _ _ R.2 true _ (HS.C 4 rfl) (HS.cap 4 rfl).2 (HS.C 1 rfl) (HS.cap 1 rfl).2 (seen_same R.2 HRB.out.2.2)).mono ?_
  rintro e w2 ⟨rfl, hd_⟩
  replace HS := HS.below hd_.below
  clear hd_
  refine ⟨_, rfl, ?_⟩
  refine hK.out _ _ HS (fun hHeld => ?_)
  clear hK K
  refine norm_ (a' := ?_) ?_ ?_
  rotate_left
  · show Act.put _ _ _ = _
    (try simp only [Act.put, List.setIfInBounds_toArray, List.set_cons_zero, List.set_cons_succ, i64_w, i32_w])
    rfl
  refine pure_ (i := 28) (N := some 76) (v := ?_) (a' := ?_) #[true, true, true, true, true, true, true, true, true, true, true, true, true, true, true, true, true, true, true, true, true, true, true, true, true, true, true, true, true, false] rfl rfl (by kernel_rfl) (fun _ _ _ h => h) (Or.inl ⟨by rfl, ?_⟩) ?_ ?_
  rotate_left
  · intro w'
    go_simp
    with_reducible rfl
  rotate_left
  · (try simp only [Act.put, List.setIfInBounds_toArray, List.set_cons_zero, List.set_cons_succ, i64_w, i32_w])
    rfl
  refine pure_ (i := 29) (N := some 8) (v := ?_) (a' := ?_) #[true, true, true, true, true, true, true, true, true, true, true, true, true, true, true, true, true, true, true, true, true, true, true, true, true, true, true, true, true, true] rfl rfl (by kernel_rfl) (fun _ _ _ h => h) (Or.inl ⟨by rfl, ?_⟩) ?_ ?_
  rotate_left
  · intro w'
    go_simp
    with_reducible rfl
  rotate_left
  · (try simp only [Act.put, List.setIfInBounds_toArray, List.set_cons_zero, List.set_cons_succ, i64_w, i32_w])
    rfl
  refine done_ (by kernel_rfl) ?_
  clear hHeld
  go_wp2
  go_ret
  exact ⟨rfl, HS.old 7 rfl⟩

end
theorem same_walk {H : Type} {enc : TypeId × Value → H} {d0 d1 d3 : DataW H} {p0 p1 p3 : List MemPlace} (v0 v1 : Value) (a2 : Int) (v3 : Value) (W : World) (h0 : Arg enc Try.prog W 25 v0 d0 p0) (h1 : Arg enc Try.prog W 26 v1 d1 p1) (_ : (Lit.int .i64 a2).wf = true) (h3 : Arg enc Try.prog W 62 v3 d3 p3) :
    Calls Try.prog 5 #[v0, v1, .int .i64 a2, v3] W fun e w' => e = .returned (.bool true) ∧ Below W.heap.size W w' := by
  obtain ⟨Ac, cc, code, Aa, ca, arrs, st, mem, rfl, hcc, hca, hC, hA, _⟩ := open_img h0
  obtain ⟨Ai, ci, ins, rfl, hci, hI⟩ := open_rows h1
  obtain ⟨As, cs, script, rfl, _, hS⟩ := open_script h3
  obtain ⟨b, hb, hF⟩ := few_tells code arrs st mem ins
  cases b with
  | false => exact same_few a2 W hC hcc hA hca hI hci hb
  | true =>
    by_cases hx : 100 < (script.length : Int)
    · exact same_long a2 W hC hcc hA hca hI hci hb (decide_eq_true hx)
    · exact same_main a2 W hC hcc hA hca hI hci hb (hF rfl) hS (decide_eq_false hx)
end Go.Proofs.Ytiafbpbbhgpjkaa.B
