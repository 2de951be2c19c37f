/- The machine that runs ahead: New. -/
import Derived.Test.YtkgoljbimblkhaaSpecM
import Derived.Test.YtkgoljbimblkhaaSpecA
import Derived.Test.YtkgoljbimblkhaaMachRight
namespace Go.Proofs.Ytkgoljbimblkhaa.B
open Go.RowKit Go.Proofs.Ytkgoljbimblkhaa.Mine Go.Proofs.Ytkgoljbimblkhaa.Sep Go.Proofs.YtkgoljbimblkhaaW.PrintWords Go.Proofs.YtkgoljbimblkhaaW.PrintLast Go.Proofs.YtkgoljbimblkhaaW.PrintMore
set_option linter.unusedVariables false
set_option linter.unusedSimpArgs false
/-- The places behind the Calls. -/
def sitesF : List S56 → Int → List Int
  | [], _ => []
  | i :: r, k => if i.f0 = 8 then (k + 1) :: sitesF r (k + 1) else sitesF r (k + 1)
theorem sitesF_len : ∀ (C : List S56) (k : Int), (sitesF C k).length ≤ C.length
  | [], _ => Nat.le_refl _
  | i :: r, k => by
    rw [sitesF]
    have := sitesF_len r (k + 1)
    split <;> simp only [List.length_cons] <;> omega
theorem sitesF_append : ∀ (C D : List S56) (k : Int), sitesF (C ++ D) k = sitesF C k ++ sitesF D (k + C.length)
  | [], D, k => by simp [sitesF]
  | i :: r, D, k => by
    rw [List.cons_append, sitesF, sitesF, sitesF_append r D (k + 1), List.length_cons, show k + 1 + (r.length : Int) = k + ((r.length + 1 : Nat) : Int) by push_cast; omega]
    split <;> rfl
theorem info3 : (Try.prog.info? 3).map (fun i => (i.zero, i.size, i.bytes)) = some (some (.int .i64 0), 1, 8) := by kernel_rfl
theorem built_mach (parts : List (Nat × Value)) : Try.prog.built 86 parts = Instr.fill (fun i => (#[(0, 69), (69, 1), (70, 1), (71, 1), (72, 1), (73, 1), (74, 1), (75, 1)] : Array (Nat × Nat))[i]?) mZ parts := by kernel_rfl
theorem run_mach {s : St} (hs : s.regs.length = 64) (vc vm : Value) (win : Int) (hc : vc.cells = #[vc]) (hm : vm.cells = #[vm]) (w : World) :
    (Instr.build 86 #[(0, .agg (stL s).toArray), (1, vc), (2, vm), (6, .int .i64 win)]).run Try.prog w = .ok (.agg (mcL s vc vm (.slice none 0 0) (.slice none 0 0) (.slice none 0 0) win 0).toArray) w := by
  have h69 := stL_length hs
  refine run_build w _ _ _ ?_
  rw [built_mach]
  obtain ⟨r1, a1, b1, c1⟩ := fill_step (place := fun i => (#[(0, 69), (69, 1), (70, 1), (71, 1), (72, 1), (73, 1), (74, 1), (75, 1)] : Array (Nat × Nat))[i]?) (cells := mZ) (i := 0) (v := .agg (stL s).toArray) (rest := [(1, vc), (2, vm), (6, .int .i64 win)]) (off := 0) (size := 69) rfl (by simpa [Value.cells] using h69) (by decide)
  obtain ⟨r2, a2, b2, c2⟩ := fill_step (place := fun i => (#[(0, 69), (69, 1), (70, 1), (71, 1), (72, 1), (73, 1), (74, 1), (75, 1)] : Array (Nat × Nat))[i]?) (cells := r1) (i := 1) (v := vc) (rest := [(2, vm), (6, .int .i64 win)]) (off := 69) (size := 1) rfl (by rw [hc]; rfl) (by rw [b1]; decide)
  obtain ⟨r3, a3, b3, c3⟩ := fill_step (place := fun i => (#[(0, 69), (69, 1), (70, 1), (71, 1), (72, 1), (73, 1), (74, 1), (75, 1)] : Array (Nat × Nat))[i]?) (cells := r2) (i := 2) (v := vm) (rest := [(6, .int .i64 win)]) (off := 70) (size := 1) rfl (by rw [hm]; rfl) (by rw [b2, b1]; decide)
  obtain ⟨r4, a4, b4, c4⟩ := fill_step (place := fun i => (#[(0, 69), (69, 1), (70, 1), (71, 1), (72, 1), (73, 1), (74, 1), (75, 1)] : Array (Nat × Nat))[i]?) (cells := r3) (i := 6) (v := .int .i64 win) (rest := []) (off := 74) (size := 1) rfl rfl (by rw [b3, b2, b1]; decide)
  show Instr.fill _ mZ [(0, .agg (stL s).toArray), (1, vc), (2, vm), (6, .int .i64 win)] = _
  rw [a1, a2, a3, a4, Instr.fill]
  congr 1
  apply Array.ext_getElem?
  intro k
  have e : (mcL s vc vm (.slice none 0 0) (.slice none 0 0) (.slice none 0 0) win 0).toArray[k]? = (mcL s vc vm (.slice none 0 0) (.slice none 0 0) (.slice none 0 0) win 0)[k]? := by simp
  have ez : mZ[k]? = (mcL z0 (.slice none 0 0) (.slice none 0 0) (.slice none 0 0) (.slice none 0 0) (.slice none 0 0) 0 0)[k]? := by simp [mZ]
  rw [c4 k, c3 k, c2 k, c1 k, e, ez]
  by_cases hk : k < 69
  · rw [if_neg (by omega), if_neg (by omega), if_neg (by omega), if_pos (by omega), mcL_get hs k hk]
    simp [Value.cells]
  · obtain ⟨j, rfl⟩ : ∃ j, k = 69 + j := ⟨k - 69, by omega⟩
    rw [mcL_tail hs j, mcL_tail (s := z0) rfl j]
    match j with
    | 0 => simp [hc]
    | 1 => simp [hm]
    | 2 => simp
    | 3 => simp
    | 4 => simp
    | 5 => simp [Value.cells]
    | 6 => simp
    | j + 7 => rw [if_neg (by omega), if_neg (by omega), if_neg (by omega), if_neg (by omega)]; simp
theorem run_mach_op {a : Act} {o : Oper} {x y z q : Operand} {s : St} (hs : s.regs.length = 64) {vc vm : Value} {win : Int} (hc : vc.cells = #[vc]) (hm : vm.cells = #[vm]) (ho : o.op = .build 86 #[(0, x), (1, y), (2, z), (6, q)]) (hx : a.eval x = .agg (stL s).toArray) (hy : a.eval y = vc) (hz : a.eval z = vm) (hq : a.eval q = .int .i64 win) (w : World) :
    (execOp a.eval o).run Try.prog w = .ok (.value (.agg (mcL s vc vm (.slice none 0 0) (.slice none 0 0) (.slice none 0 0) win 0).toArray)) w := by
  unfold execOp
  simp only [ho, List.map_toArray, List.map_cons, List.map_nil, hx, hy, hz, hq, Sem.run_bind, run_mach hs vc vm win hc hm w, Result.andThen_ok, Sem.run_pure]
/-- A machine at the beginning. -/
def newX (st me : Int) (arrs : List S60) (ins : List (List Int)) : SM := ⟨beginS st, startF ins arrs me, [], none, 0, 0⟩
theorem mb_setT {g : Nat} {W0 w : World} {L : List Chunk} {s : St} {vc vm vb vs vt : Value} {win left : Int} (hs : s.regs.length = 64) (HS : Sat W0 w (MB g s vc vm vb vs vt win left :: L)) (v : Value) : Sat W0 (w.setCell ⟨g, 73, none⟩ v) (MB g s vc vm vb vs v win left :: L) := by
  have h := HS.store 0 rfl 73 v
  have e : (mcL s vc vm vb vs vt win left).toArray.setIfInBounds 73 v = (mcL s vc vm vb vs v win left).toArray := by
    unfold mcL
    rw [List.setIfInBounds_toArray, List.set_append_right _ _ (by rw [stL_length hs]; omega), stL_length hs]
    rfl
  unfold MB at h ⊢
  rw [← e]
  exact h
section
variable {W0 w : World} {L : List Chunk} {Ac : Option Addr} {cc : Nat} {code : List S56} {Aa : Option Addr} {ca : Nat} {arrs : List S60} {st me win : Int} {Ai : Option Addr} {ci : Nat} {ins : List (List Int)}

set_option maxRecDepth 100000 in
set_option maxHeartbeats 2000000 in
theorem new_bad (hC : ∀ w, Sat W0 w L → Kd.C k56 w Ac code.length code) (hcc : code.length ≤ cc) (hA : ∀ w, Sat W0 w L → Kd.C k60 w Aa arrs.length arrs) (hca : arrs.length ≤ ca) {k : Nat} (hr : Aside0 (image_Image_Right.f k code arrs st me = some false)) (HS : Sat W0 w L) :
    Calls Try.prog 21 #[.agg #[.slice Ac code.length cc, .slice Aa arrs.length ca, .int .i64 st, .int .i64 me], .slice Ai ins.length ci, .int .i64 win] w fun e w' => e = .returned (.tuple #[.pointer none, .int .i64 1]) ∧ Sat W0 w' L := by
  go_enter Try.func21, Try.ntmps21
  go_upto_region 1 with ((with_reducible refine gate_dst (N := 3) rfl ?_); go_must (refine ev_box HS rfl (N := 3) rfl (cs := #[.slice Ac code.length cc, .slice Aa arrs.length ca, .int .i64 st, .int .i64 me]) (t := 25) ?hrun ?_); (case hrun => first | (go_simp; done) | (go_simp; rfl)); clear HS; intro g3 w HS)
  have cb := HS.cell 0 rfl
  go_wp2_with (first | ((with_reducible refine gate_load (ty := 25) (p := 3) rfl ?_); go_must (refine ev_load HS 0 rfl rfl 25 (.tmp 3) rfl (N := 11) rfl rfl _ Try.underlying25 rfl (by kernel_rfl) ?_)) | (go_at_call 9; (with_reducible refine (image_Image_Right.calls k Ac _ code Aa _ arrs st me false _ (hC _ HS.tail) hcc (hA _ HS.tail) hca hr.out).mono ?_); rintro e w_ ⟨rfl, hb_⟩; replace HS := HS.below hb_; clear hb_))
  go_ret2
  exact ⟨rfl, HS.tail⟩

set_option maxRecDepth 100000 in
set_option maxHeartbeats 2000000 in
theorem new_window (hC : ∀ w, Sat W0 w L → Kd.C k56 w Ac code.length code) (hcc : code.length ≤ cc) (hA : ∀ w, Sat W0 w L → Kd.C k60 w Aa arrs.length arrs) (hca : arrs.length ≤ ca) {k : Nat} (hr : Aside0 (image_Image_Right.f k code arrs st me = some true)) (hw : win < 1 ∨ 1000 < win) (HS : Sat W0 w L) :
    Calls Try.prog 21 #[.agg #[.slice Ac code.length cc, .slice Aa arrs.length ca, .int .i64 st, .int .i64 me], .slice Ai ins.length ci, .int .i64 win] w fun e w' => e = .returned (.tuple #[.pointer none, .int .i64 1]) ∧ Sat W0 w' L := by
  by_cases h1 : win < 1
  · have h1b : decide (win < 1) = true := decide_eq_true h1
    clear hw
    go_enter Try.func21, Try.ntmps21
    go_upto_region 1 with ((with_reducible refine gate_dst (N := 3) rfl ?_); go_must (refine ev_box HS rfl (N := 3) rfl (cs := #[.slice Ac code.length cc, .slice Aa arrs.length ca, .int .i64 st, .int .i64 me]) (t := 25) ?hrun ?_); (case hrun => first | (go_simp; done) | (go_simp; rfl)); clear HS; intro g3 w HS)
    have cb := HS.cell 0 rfl
    go_wp2_with (first | ((with_reducible refine gate_load (ty := 25) (p := 3) rfl ?_); go_must (refine ev_load HS 0 rfl rfl 25 (.tmp 3) rfl (N := 11) rfl rfl _ Try.underlying25 rfl (by kernel_rfl) ?_)) | (go_at_call 9; (with_reducible refine (image_Image_Right.calls k Ac _ code Aa _ arrs st me true _ (hC _ HS.tail) hcc (hA _ HS.tail) hca hr.out).mono ?_); rintro e w_ ⟨rfl, hb_⟩; replace HS := HS.below hb_; clear hb_))
    go_ret2
    exact ⟨rfl, HS.tail⟩
  · have h1b : decide (win < 1) = false := decide_eq_false h1
    have h2b : decide (1000 < win) = true := decide_eq_true (by omega)
    clear hw
    go_enter Try.func21, Try.ntmps21
    go_upto_region 1 with ((with_reducible refine gate_dst (N := 3) rfl ?_); go_must (refine ev_box HS rfl (N := 3) rfl (cs := #[.slice Ac code.length cc, .slice Aa arrs.length ca, .int .i64 st, .int .i64 me]) (t := 25) ?hrun ?_); (case hrun => first | (go_simp; done) | (go_simp; rfl)); clear HS; intro g3 w HS)
    have cb := HS.cell 0 rfl
    go_wp2_with (first | ((with_reducible refine gate_load (ty := 25) (p := 3) rfl ?_); go_must (refine ev_load HS 0 rfl rfl 25 (.tmp 3) rfl (N := 11) rfl rfl _ Try.underlying25 rfl (by kernel_rfl) ?_)) | (go_at_call 9; (with_reducible refine (image_Image_Right.calls k Ac _ code Aa _ arrs st me true _ (hC _ HS.tail) hcc (hA _ HS.tail) hca hr.out).mono ?_); rintro e w_ ⟨rfl, hb_⟩; replace HS := HS.below hb_; clear hb_))
    go_ret2
    exact ⟨rfl, HS.tail⟩

set_option maxRecDepth 100000 in
set_option maxHeartbeats 2000000 in
theorem new_calls (hC : ∀ w, Sat W0 w L → Kd.C k56 w Ac code.length code) (hcc : code.length ≤ cc) (hA : ∀ w, Sat W0 w L → Kd.C k60 w Aa arrs.length arrs) (hca : arrs.length ≤ ca) (hI : ∀ w, Sat W0 w L → Kd.C (Kd.slice 2 (Kd.int .i64)) w Ai ins.length ins) {k : Nat} (hr : Aside0 (image_Image_Right.f k code arrs st me = some true)) (hl : ∀ a ∈ arrs, Lies me a) (hal : arrs.length ≤ 1000) (m0 : 0 ≤ me) (m1 : me ≤ 1048576) (hcl : code.length ≤ 100000) (w0 : 1 ≤ win) (w1 : win ≤ 1000) (HS : Sat W0 w L) :
    Calls Try.prog 21 #[.agg #[.slice Ac code.length cc, .slice Aa arrs.length ca, .int .i64 st, .int .i64 me], .slice Ai ins.length ci, .int .i64 win] w fun e w' => ∃ g Am cm At ct, e = .returned (.tuple #[.pointer (some ⟨g, 0, none⟩), .int .i64 0]) ∧
      Sat W0 w' (mch g Am me.toNat cm (.slice Ac code.length cc) (.slice At (sitesF code 0).length ct) win (newX st me arrs ins) :: row IW 3 (.slice At (sitesF code 0).length ct) (sitesF code 0) :: L) := by
  have h1b : decide (win < 1) = false := decide_eq_false (by omega)
  have h2b : decide (1000 < win) = false := decide_eq_false (by omega)
  go_enter Try.func21, Try.ntmps21
  go_upto_region 1 with ((with_reducible refine gate_dst (N := 3) rfl ?_); go_must (refine ev_box HS rfl (N := 3) rfl (cs := #[.slice Ac code.length cc, .slice Aa arrs.length ca, .int .i64 st, .int .i64 me]) (t := 25) ?hrun ?_); (case hrun => first | (go_simp; done) | (go_simp; rfl)); clear HS; intro g3 w HS)
  have cb := HS.cell 0 rfl
  go_upto_region 3 with (first | ((with_reducible refine gate_load (ty := 25) (p := 3) rfl ?_); go_must (refine ev_load HS 0 rfl rfl 25 (.tmp 3) rfl (N := 11) rfl rfl _ Try.underlying25 rfl (by kernel_rfl) ?_)) | (go_at_call 9; (with_reducible refine (image_Image_Right.calls k Ac _ code Aa _ arrs st me true _ (hC _ HS.tail) hcc (hA _ HS.tail) hca hr.out).mono ?_); rintro e w_ ⟨rfl, hb_⟩; replace HS := HS.below hb_; clear hb_))
  refine start_ (n := 11) (S := fun w' => ∃ L', Sat W0 w' (blk g3 25 #[.slice Ac code.length cc, .slice Aa arrs.length ca, .int .i64 st, .int .i64 me] :: L')) (ds := []) #[false, false, false, false, false, false, false, false, false, false, false] (by kernel_rfl) rfl rfl ⟨_, HS.drew⟩ (fun hHeld => ?_)
  replace HS := HS.drew
  generalize World.drew w = w at HS hHeld ⊢
  refine take_ (i := 0) (N := some 22) (v := ?_) (a' := ?_) #[true, false, false, false, false, false, false, false, false, false, false] rfl rfl (by kernel_rfl) (fun _ _ _ h => h) (Or.inl ⟨by rfl, ?_⟩) hHeld ?_ ?_
  rotate_left
  · rintro w' hS
    obtain ⟨L', hS⟩ := hS
    have cb := hS.cell 0 rfl
    refine whole_run hS 0 rfl 25 (.tmp 3) ?_ ?_ _ Try.underlying25 rfl (by kernel_rfl) <;> rfl
  rotate_left
  · (try simp only [Act.put, List.setIfInBounds_toArray, List.set_cons_zero, List.set_cons_succ, i64_w, i32_w])
    rfl
  refine pure_ (i := 2) (N := some 24) (v := ?_) (a' := ?_) #[true, false, true, false, false, false, false, false, false, false, false] rfl rfl (by kernel_rfl) (fun _ _ _ h => h) (Or.inl ⟨by rfl, ?_⟩) ?_ ?_
  rotate_left
  · intro w'
    go_simp
    with_reducible rfl
  rotate_left
  · (try simp only [Act.put, List.setIfInBounds_toArray, List.set_cons_zero, List.set_cons_succ, i64_w, i32_w])
    rfl
  refine take_ (i := 3) (N := some 25) (v := ?_) (a' := ?_) #[true, false, true, true, false, false, false, false, false, false, false] rfl rfl (by kernel_rfl) (fun _ _ _ h => h) (Or.inl ⟨by rfl, ?_⟩) hHeld ?_ ?_
  rotate_left
  · rintro w' hS
    obtain ⟨L', hS⟩ := hS
    have cb := hS.cell 0 rfl
    go_simp
    with_reducible rfl
  rotate_left
  · (try simp only [Act.put, List.setIfInBounds_toArray, List.set_cons_zero, List.set_cons_succ, i64_w, i32_w])
    rfl
  refine take_ (i := 4) (N := some 26) (v := ?_) (a' := ?_) #[true, false, true, true, true, false, false, false, false, false, false] rfl rfl (by kernel_rfl) (fun _ _ _ h => h) (Or.inl ⟨by rfl, ?_⟩) hHeld ?_ ?_
  rotate_left
  · rintro w' hS
    obtain ⟨L', hS⟩ := hS
    have cb := hS.cell 0 rfl
    refine whole_run hS 0 rfl 25 (.tmp 3) ?_ ?_ _ Try.underlying25 rfl (by kernel_rfl) <;> rfl
  rotate_left
  · (try simp only [Act.put, List.setIfInBounds_toArray, List.set_cons_zero, List.set_cons_succ, i64_w, i32_w])
    rfl
  refine pure_ (i := 5) (N := some 27) (v := ?_) (a' := ?_) #[true, false, true, true, true, true, false, false, false, false, false] rfl rfl (by kernel_rfl) (fun _ _ _ h => h) (Or.inl ⟨by rfl, ?_⟩) ?_ ?_
  rotate_left
  · intro w'
    go_simp
    with_reducible rfl
  rotate_left
  · (try simp only [Act.put, List.setIfInBounds_toArray, List.set_cons_zero, List.set_cons_succ, i64_w, i32_w])
    rfl
  refine pure_ (i := 7) (N := some 29) (v := ?_) (a' := ?_) #[true, false, true, true, true, true, false, true, false, false, false] rfl rfl (by kernel_rfl) (fun _ _ _ h => h) (Or.inl ⟨by rfl, ?_⟩) ?_ ?_
  rotate_left
  · intro w'
    go_simp
    with_reducible rfl
  rotate_left
  · (try simp only [Act.put, List.setIfInBounds_toArray, List.set_cons_zero, List.set_cons_succ, i64_w, i32_w])
    rfl
  refine one_ (i := 1) (N := some 23) #[true, true, true, true, true, true, false, true, false, false, false] rfl rfl (by kernel_rfl) (by decide) (fun K hK => ?_)
  refine goes_ Try.func17 (by kernel_rfl) rfl #[.agg #[.slice Ac code.length cc, .slice Aa arrs.length ca, .int .i64 st, .int .i64 me]] (by rfl) rfl rfl (by (try simp only [List.map_toArray, List.map_cons, List.map_nil]); first | done | rfl) ?_
  refine (begin_calls st me HS).mono ?_
  clear HS
  rintro e w ⟨rfl, HS⟩
  refine ⟨_, rfl, ?_⟩
  refine hK.out _ _ ⟨_, HS⟩ (fun hHeld => ?_)
  clear hK K
  refine norm_ (a' := ?_) ?_ ?_
  rotate_left
  · show Act.put _ _ _ = _
    (try simp only [Act.put, List.setIfInBounds_toArray, List.set_cons_zero, List.set_cons_succ, i64_w, i32_w])
    rfl
  refine one_ (i := 6) (N := some 28) #[true, true, true, true, true, true, true, true, false, false, false] rfl rfl (by kernel_rfl) (by decide) (fun K hK => ?_)
  refine goes_ Try.func18 (by kernel_rfl) rfl #[.agg #[.slice Ac code.length cc, .slice Aa arrs.length ca, .int .i64 st, .int .i64 me], .slice Ai ins.length ci] (by rfl) rfl rfl (by (try simp only [List.map_toArray, List.map_cons, List.map_nil]); first | done | rfl) ?_
  refine (start_calls (ca := ca) (ci := ci) (fun w h => hA w h.tail) (fun w h => hI w h.tail) hl hal m0 m1 HS).mono ?_
  clear HS
  rintro e w ⟨Am, nm, cm, rfl, HS⟩
  refine ⟨_, rfl, ?_⟩
  refine hK.out _ _ ⟨_, HS.tail⟩ (fun hHeld => ?_)
  clear hK K
  refine norm_ (a' := ?_) ?_ ?_
  rotate_left
  · show Act.put _ _ _ = _
    (try simp only [Act.put, List.setIfInBounds_toArray, List.set_cons_zero, List.set_cons_succ, i64_w, i32_w])
    rfl
  refine pure_ (i := 8) (N := some 30) (v := ?_) (a' := ?_) #[true, true, true, true, true, true, true, true, true, false, false] rfl rfl (by kernel_rfl) (fun _ _ _ h => h) (Or.inl ⟨by rfl, ?_⟩) ?_ ?_
  rotate_left
  · intro w'
    refine run_mach_op (x := .tmp 23) (y := .tmp 25) (z := .tmp 28) (q := .tmp 29) (s := beginS st) (vc := .slice Ac code.length cc) (vm := .slice Am nm cm) (win := win) rfl rfl rfl ?_ ?_ ?_ ?_ ?_ w' <;> rfl
  rotate_left
  · (try simp only [Act.put, List.setIfInBounds_toArray, List.set_cons_zero, List.set_cons_succ, i64_w, i32_w])
    rfl
  refine one_ (i := 9) (N := some 31) #[true, true, true, true, true, true, true, true, true, true, false] rfl rfl (by kernel_rfl) (by decide) (fun K hK => ?_)
  refine ev_box_step HS (by rfl) (N := 31) rfl (cs := (mcL (beginS st) (.slice Ac code.length cc) (.slice Am nm cm) (.slice none 0 0) (.slice none 0 0) (.slice none 0 0) win 0).toArray) (t := 86) ?hrun ?_
  (case hrun => first | (go_simp; done) | (go_simp; rfl))
  clear HS
  intro gm w HS
  refine hK.out _ _ ⟨_, HS.tail.tail⟩ (fun hHeld => ?_)
  clear hK K
  refine norm_ (a' := ?_) ?_ ?_
  rotate_left
  · show Act.put _ _ _ = _
    (try simp only [Act.put, List.setIfInBounds_toArray, List.set_cons_zero, List.set_cons_succ, i64_w, i32_w])
    rfl
  refine pure_ (i := 10) (N := some 8) (v := ?_) (a' := ?_) #[true, true, true, true, true, true, true, true, true, true, true] rfl rfl (by kernel_rfl) (fun _ _ _ h => h) (Or.inl ⟨by rfl, ?_⟩) ?_ ?_
  rotate_left
  · intro w'
    go_simp
    with_reducible rfl
  rotate_left
  · (try simp only [Act.put, List.setIfInBounds_toArray, List.set_cons_zero, List.set_cons_succ, i64_w, i32_w])
    rfl
  refine done_ (by kernel_rfl) ?_
  clear hHeld
  obtain ⟨e1, e2⟩ := HS.cap 1 rfl
  rw [show (startF ins arrs me).length = me.toNat by unfold startF; rw [startL_length, List.length_replicate]] at e1 e2
  subst e1
  have MBF : Sat W0 w (MB gm (beginS st) (.slice Ac code.length cc) (.slice Am me.toNat cm) (.slice none 0 0) (.slice none 0 0) (.slice none 0 0) win 0 :: row IW 2 (.slice Am me.toNat cm) (startF ins arrs me) :: blk g3 25 #[.slice Ac code.length cc, .slice Aa arrs.length ca, .int .i64 st, .int .i64 me] :: L) := HS
  clear HS e2 h1b h2b cb
  have HS := MBF.nil IW 3
  clear MBF
  have cb := HS.cell 3 rfl
  go_wp2
  go_loopg [35] (code.length + 1) (fun kq v35 w' => ∃ (i : Nat) (At : Option Addr) (nt ct : Nat), v35 = .int .i64 (i : Int) ∧ Aside0 (i ≤ code.length ∧ code.length + 1 ≤ kq + i) ∧
      Aside0 (Sat W0 w' (row IW 3 (.slice At nt ct) (sitesF (code.take i) 0) :: MB gm (beginS st) (.slice Ac code.length cc) (.slice Am me.toNat cm) (.slice none 0 0) (.slice none 0 0) (.slice At nt ct) win 0 :: row IW 2 (.slice Am me.toNat cm) (startF ins arrs me) :: blk g3 25 #[.slice Ac code.length cc, .slice Aa arrs.length ca, .int .i64 st, .int .i64 me] :: L)))
  case atStart => exact ⟨0, none, 0, 0, rfl, ⟨by omega, by omega⟩, ⟨HS⟩⟩
  case round =>
    clear HS cb
    obtain ⟨i, At, nt, ct, rfl, HJ, HS'⟩ := hrel
    have HS := HS'.out
    clear HS'
    cases gk with
    | zero => have := HJ.out; omega
    | succ k1 =>
      by_cases hk : i < code.length
      · obtain ⟨I, hI_⟩ : ∃ I : Int, (i : Int) = I := ⟨_, rfl⟩
        have p1 : 0 ≤ I := by omega
        have q1 : I < (code.length : Int) := by omega
        have c1_ : decide (I < (code.length : Int)) = true := decide_eq_true q1
        obtain ⟨ad, rfl, x0, x1, x2, x3, x4, x5⟩ := at_T56 (hC wr HS.tail.tail.tail.tail) I p1 q1
        have hrd : rd_T56 code I = code[i] := by rw [← hI_]; unfold rd_T56; rw [Int.toNat_natCast, List.getD_eq_getElem?_getD, List.getElem?_eq_getElem hk]; rfl
        obtain ⟨r, hr⟩ : ∃ r, r = rd_T56 code I := ⟨_, rfl⟩
        have HT := Aside0.mk (show sitesF (code.take (i + 1)) 0 = sitesF (code.take i) 0 ++ (if r.f0 = 8 then [I + 1] else []) by
          rw [List.take_succ_eq_append_getElem hk, sitesF_append, List.length_take, Nat.min_eq_left (by omega), ← hrd, ← hr, sitesF, sitesF, Int.zero_add, hI_]
          first | done | (split <;> rfl))
        rw [← hr] at x0 x1 x2 x3 x4 x5
        rw [hI_]
        have HII := Aside0.mk hI_
        have hwi : wrap64 (I + 1) = I + 1 := w64 _ (by omega) (by omega)
        clear hr hrd hI_ hk
        have r1 := eq_true p1
        have r2 := eq_true q1
        obtain ⟨i0, i1, i2, i3, i4, i5⟩ := r
        dsimp only at x0 x1 x2 x3 x4 x5
        go_upto_region 7 with (first | ((with_reducible refine gate_dst (N := 10) rfl ?_); go_must (refine ev_box HS rfl (N := 10) rfl (cs := #[.int .i64 0, .int .i64 0, .int .i64 0, .int .i64 0, .int .i64 0, .int .i64 0]) (t := 56) ?hrun ?_); (case hrun => first | (go_simp; done) | (go_simp; rfl)); clear HS; intro gi w HS) | ((with_reducible refine gate_store (t := 56) (p := 10) rfl ?_); go_must (refine ev_store HS 0 rfl rfl 56 (.tmp 10) (.tmp 39) rfl rfl rfl [.int .i64 i0, .int .i64 i1, .int .i64 i2, .int .i64 i3, .int .i64 i4, .int .i64 i5] ?hx (by kernel_rfl) (by rfl) ?h1 ?_); (case hx => first | rfl | (go_simp; done)); (case h1 => simp [Value.oneCell']); clear HS; intro w HS))
        have ci := HS.cell 0 rfl
        by_cases h8 : i0 = 8
        · subst h8
          have c73 : w.cell? ⟨gm, 73, none⟩ = some (.slice At nt ct) := mcellT rfl HS 2 rfl 4
          have HL := Aside0.mk (sitesF_len (code.take i) 0)
          have HNT := (HS.cap 1 rfl).1
          subst HNT
          go_upto_region 9 with (first | ((with_reducible refine gate_dst (N := 50) rfl ?_); go_must (refine ev_lit IW (e := 3) HS rfl (N := 50) rfl (xs := [I + 1]) (inner := [.int .i64 (I + 1)]) ?hrun ((Reps.none _ _).snoc (ps := []) (cs := []) rfl rfl) (by first | decide | simp) ?_); (case hrun => first | (go_simp; done) | (go_simp; rfl)); clear HS; intro gl w HS) | (((with_reducible refine gate_builtin (b := .append) (xs := #[.tmp 47, .tmp 50]) rfl ?_); go_must (refine ev_append IW HS 2 (.tmp 47) (.tmp 50) 84 3 (.int .i64 0) 8 rfl (HS.C 0 rfl) (fun _ _ h => h) rfl rfl rfl rfl Try.underlying84 info3 rfl (by decide) (by omega) ((by have := HL.out; rw [List.length_take] at this; simp only [List.length_cons, List.length_nil]; omega)) ?_); clear HS; intro vo w HS); obtain ⟨Av, cv, rfl⟩ := HS.slice 2 rfl; obtain ⟨nv, hnv⟩ : ∃ nv, (sitesF (code.take i) 0 ++ [I + 1]).length = nv := ⟨_, rfl⟩; rw [hnv] at HS ⊢; clear hnv c73; have c73 : w.cell? ⟨gm, 73, none⟩ = some (.slice At (sitesF (code.take i) 0).length ct) := mcellT rfl HS 3 rfl 4; have f73 := HS.frozen 3 rfl 73))
          have HK : Sat W0 w (MB gm (beginS st) (.slice (some ad) code.length cc) (.slice Am me.toNat cm) (.slice none 0 0) (.slice none 0 0) (.slice At (sitesF (code.take i) 0).length ct) win 0 :: row IW 3 (.slice Av nv cv) (sitesF (code.take i) 0 ++ [I + 1]) :: row IW 2 (.slice Am me.toNat cm) (startF ins arrs me) :: blk g3 25 #[.slice (some ad) code.length cc, .slice Aa arrs.length ca, .int .i64 st, .int .i64 me] :: L) := (HS.tail.tail).front 1 rfl
          clear HS
          refine wp_sat (mb_setT rfl HK (.slice Av nv cv)) (fun w HS => ?_)
          clear HK c73 f73 ci
          go_wp2
          go_roundg k1
          case measure => omega
          case rel =>
            refine ⟨i + 1, Av, nv, cv, by rw [← HII.out]; rfl, ⟨by have := HJ.out; have := HII.out; omega, by have := HJ.out; omega⟩, ⟨?_⟩⟩
            rw [HT.out, if_pos trivial]
            exact HS.swap
        · have h8b : (i0 == 8) = false := beq_eq_false_iff_ne.mpr h8
          go_wp2
          go_roundg k1
          case measure => omega
          case rel =>
            refine ⟨i + 1, At, nt, ct, by rw [← HII.out]; rfl, ⟨by have := HJ.out; have := HII.out; omega, by have := HJ.out; omega⟩, ⟨?_⟩⟩
            rw [HT.out, if_neg h8, List.append_nil]
            exact HS.tail
      · have hkk : i = code.length := by have := HJ.out.1; omega
        subst hkk
        have hkb : decide (code.length < code.length) = false := decide_eq_false (Nat.lt_irrefl _)
        rw [List.take_length] at HS
        obtain ⟨hnt, _⟩ := HS.cap 0 rfl
        subst hnt
        go_wp2
        go_ret2
        refine ⟨gm, Am, cm, At, ct, rfl, ?_⟩
        have k1 : Sat W0 wr (MB gm (beginS st) (.slice Ac code.length cc) (.slice Am me.toNat cm) (.slice none 0 0) (.slice none 0 0) (.slice At (sitesF code 0).length ct) win 0 :: row IW 2 (.slice Am me.toNat cm) (startF ins arrs me) :: row IW 3 (.slice At (sitesF code 0).length ct) (sitesF code 0) :: L) := (HS.erase 3).insert 2 (by simp)
        have k2 := (k1.queNil 99 2 none).swap
        have k3 : Sat W0 wr (SVD (.slice none 0 0) none 0 :: _) := Sat.join ((k2.queNil 94 70 none).addFact (φ := (0 : Nat) = 0) rfl)
        exact mClose (X := newX st me arrs ins) rfl (vb := .slice none 0 0) (vs := .slice none 0 0) (k3.insert 3 (by simp))

end
end Go.Proofs.Ytkgoljbimblkhaa.B
