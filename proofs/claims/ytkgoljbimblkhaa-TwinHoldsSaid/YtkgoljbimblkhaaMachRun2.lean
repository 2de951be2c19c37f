/- A run of the machine: the contract of Run. -/
import Derived.Test.YtkgoljbimblkhaaMachRun
namespace Go.Proofs.Ytkgoljbimblkhaa.B
open Go.RowKit Go.Proofs.Ytkgoljbimblkhaa.Mine Go.Proofs.Ytkgoljbimblkhaa.Sep Go.Proofs.YtkgoljbimblkhaaW.PrintWords Go.Proofs.YtkgoljbimblkhaaW.PrintLast Go.Proofs.YtkgoljbimblkhaaW.PrintMore
set_option linter.unusedVariables false
set_option linter.unusedSimpArgs false

theorem results_cttt {P : Program} {fn : Func} {p u v x : Tmp} {ty : TypeId} (h : fn.results = #[.cell p ty, .tmp u, .tmp v, .tmp x]) (tmps : Array Value) (w : World) (g : Nat) (t : TypeId) (cs : Array Value) (fr : Nat × Nat) (d : TypeDesc)
    (hp : tmps.getD p undef = .pointer (some ⟨g, 0, none⟩)) (hg : w.heap[g]? = some (.cells cs t fr))
    (hu : P.underlying ty = some d) (hd : (match d with | .struct _ | .array _ _ => true | _ => false) = true) (hi : (P.info? ty).map (·.size) = some cs.size) :
    (results fn tmps).run P w = .ok (.tuple #[.agg cs, tmps.getD u undef, tmps.getD v undef, tmps.getD x undef]) w := by
  have hp' : tmps[p]?.getD undef = .pointer (some ⟨g, 0, none⟩) := by simpa using hp
  simp [results, h, hp', asAddr, run_loadVar_row w g t ty cs fr d hg hu hd hi]
theorem reachF_keeps {M : Type} (f : MF M) (i : S56) (s : St) (m : M) (hs : s.regs.length = 64) : (reachF f i s m).1.regs.length = 64 ∧ (reachF f i s m).1.steps = s.steps := by
  unfold reachF
  split <;> split <;> simp [stopF, hs]
theorem callF_keeps {M : Type} (f : MF M) (i : S56) (s : St) (m : M) (hs : s.regs.length = 64) : (callF f i s m).1.regs.length = 64 ∧ (callF f i s m).1.steps = s.steps := by
  unfold callF
  split <;> split <;> simp [stopF, hs]
theorem doF_keeps {M : Type} (f : MF M) (i : S56) (s : St) (m : M) (hs : s.regs.length = 64) : (doF f i s m).1.regs.length = 64 ∧ (doF f i s m).1.steps = s.steps := by
  unfold doF
  split
  · simp [hs]
  split
  · simp [hs]
  split
  · split <;> simp [stopF, hs]
  split
  · exact reachF_keeps f i s m hs
  split
  · simp [hs]
  split
  · split <;> simp [hs]
  split
  · exact callF_keeps f i s m hs
  split
  · simp [stopF, hs]
  split <;> simp [stopF, hs]
theorem stepF_keeps {M : Type} (f : MF M) (code : List S56) (s : St) (m : M) (hs : s.regs.length = 64) : (stepF f code s m).1.regs.length = 64 ∧ (s.ended = false → (stepF f code s m).1.steps = wrap64 (s.steps + 1)) ∧ (stepF f code s m).2.2.length ≤ 3 := by
  unfold stepF
  split
  · rename_i he
    exact ⟨hs, (fun h => by rw [h] at he; cases he), by simp⟩
  · split
    · exact ⟨hs, fun _ => rfl, by simp⟩
    · have h := doF_keeps f (rd_T56 code s.pc) { s with steps := wrap64 (s.steps + 1) } m hs
      exact ⟨h.1, fun _ => h.2, by have := doF_len f (rd_T56 code s.pc) { s with steps := wrap64 (s.steps + 1) } m; simp only [List.length_cons]; omega⟩
def runN (code : List S56) (fuel : Int) : Nat → St → List Int → St × List Int × List S66
  | 0, s, m => (s, m, [])
  | k + 1, s, m => if s.ended = true ∨ ¬ s.steps < fuel then (s, m, []) else
      ((runN code fuel k (stepF wF code s m).1 (stepF wF code s m).2.1).1, (runN code fuel k (stepF wF code s m).1 (stepF wF code s m).2.1).2.1, (stepF wF code s m).2.2 ++ (runN code fuel k (stepF wF code s m).1 (stepF wF code s m).2.1).2.2)
theorem runN_end {code : List S56} {fuel : Int} {s : St} {m : List Int} (h : s.ended = true ∨ ¬ s.steps < fuel) : ∀ k, runN code fuel k s m = (s, m, [])
  | 0 => rfl
  | k + 1 => by rw [runN, if_pos h]
def runF (code : List S56) (fuel : Int) (s : St) (m : List Int) : St × List Int × List S66 := runN code fuel fuel.toNat s m
section
variable {W0 w : World} {L : List Chunk} {Ac : Option Addr} {cc : Nat} {code : List S56} {Aa : Option Addr} {ca : Nat} {arrs : List S60} {st mem : Int} {Ai : Option Addr} {ci : Nat} {ins : List (List Int)}
set_option maxRecDepth 100000 in
set_option maxHeartbeats 2000000 in
theorem run_bad (fuel : Int) (hC : ∀ w, Sat W0 w L → Kd.C k56 w Ac code.length code) (hcc : code.length ≤ cc) (hA : ∀ w, Sat W0 w L → Kd.C k60 w Aa arrs.length arrs) (hca : arrs.length ≤ ca) {k : Nat} (hr : image_Image_Right.f k code arrs st mem = some false) (HS : Sat W0 w L) :
    Calls Try.prog 11 #[.agg #[.slice Ac code.length cc, .slice Aa arrs.length ca, .int .i64 st, .int .i64 mem], .slice Ai ins.length ci, .int .i64 fuel] w fun e w' => e = .returned (.tuple #[.agg (stL z0).toArray, .slice none 0 0, .slice none 0 0, .int .i64 40]) ∧ Sat W0 w' L := by
  have HR := Aside0.mk hr
  clear hr
  have hz : ∀ w : World, (zeroValue 42).run Try.prog w = .ok (.agg (stL z0).toArray) w := fun w => by kernel_rfl
  go_enter Try.func11, Try.ntmps11
  go_upto_region 1 with (first | ((with_reducible refine gate_dst (N := 3) rfl ?_); go_must (refine ev_box HS rfl (N := 3) rfl (cs := #[.slice Ac code.length cc, .slice Aa arrs.length ca, .int .i64 st, .int .i64 mem]) (t := 25) ?hrun ?_); (case hrun => first | (go_simp; done) | (go_simp; rfl)); clear HS; intro gb w HS) | ((with_reducible refine gate_dst (N := 6) rfl ?_); go_must (refine ev_box HS rfl (N := 6) rfl (cs := (stL z0).toArray) (t := 42) ?hrun ?_); (case hrun => first | (go_simp; done) | (go_simp; rfl)); clear HS; intro g6 w HS))
  have cb := HS.cell 1 rfl
  go_upto_region 2 with (go_at_call 9; (with_reducible refine (image_Image_Right.calls k _ _ code _ _ arrs st mem false _ (hC _ HS.tail.tail) hcc (hA _ HS.tail.tail) hca HR.out).mono ?_); rintro e w_ ⟨rfl, hb⟩; replace HS := HS.below hb; clear hb)
  go_wp2_with ((with_reducible refine gate_store (t := 42) (p := 6) rfl ?_); go_must (refine ev_store HS 0 rfl rfl 42 (.tmp 6) (.tmp 16) rfl rfl rfl (stL z0) rfl (len32 rfl) rfl (stL_one _) ?_); clear HS; intro w HS)
  exact bodyPost_ret (v := .tuple #[.agg (stL z0).toArray, .slice none 0 0, .slice none 0 0, .int .i64 40]) (results_cttt Try.results11 _ _ g6 _ _ (0, 0) _ rfl (HS.blk 0 rfl) Try.underlying42 rfl (size32 rfl)) rfl ⟨rfl, HS.tail.tail⟩
set_option maxRecDepth 100000 in
set_option maxHeartbeats 4000000 in
theorem run_calls (fuel : Int) (hf0 : 0 ≤ fuel) (hf : fuel ≤ 100000) (hC : ∀ w, Sat W0 w L → Kd.C k56 w Ac code.length code) (hcc : code.length ≤ cc) (hA : ∀ w, Sat W0 w L → Kd.C k60 w Aa arrs.length arrs) (hca : arrs.length ≤ ca)
    (hI : ∀ w, Sat W0 w L → Kd.C (Kd.slice 2 (Kd.int .i64)) w Ai ins.length ins) {k : Nat} (hr : image_Image_Right.f k code arrs st mem = some true) (HS : Sat W0 w L) :
    Calls Try.prog 11 #[.agg #[.slice Ac code.length cc, .slice Aa arrs.length ca, .int .i64 st, .int .i64 mem], .slice Ai ins.length ci, .int .i64 fuel] w fun e w' => ∃ A n c v, e = .returned (.tuple #[.agg (stL (runF code fuel (beginS st) (startF ins arrs mem)).1).toArray, .slice A n c, v, .int .i64 0]) ∧
      Sat W0 w' (row k66 66 v (runF code fuel (beginS st) (startF ins arrs mem)).2.2 :: row IW 2 (.slice A n c) (runF code fuel (beginS st) (startF ins arrs mem)).2.1 :: L) := by
  have hR := right_true hr
  have HR := Aside0.mk hr
  clear hr
  have hms := hR.s0
  have hms2 := hR.s1
  have hms3 := hR.m1
  have hal : arrs.length ≤ 1000 := by have := hR.a1; omega
  go_enter Try.func11, Try.ntmps11
  go_upto_region 1 with (first | ((with_reducible refine gate_dst (N := 3) rfl ?_); go_must (refine ev_box HS rfl (N := 3) rfl (cs := #[.slice Ac code.length cc, .slice Aa arrs.length ca, .int .i64 st, .int .i64 mem]) (t := 25) ?hrun ?_); (case hrun => first | (go_simp; done) | (go_simp; rfl)); clear HS; intro gb w HS) | ((with_reducible refine gate_dst (N := 6) rfl ?_); go_must (refine ev_box HS rfl (N := 6) rfl (cs := (stL z0).toArray) (t := 42) ?hrun ?_); (case hrun => first | (go_simp; done) | (go_simp; rfl)); clear HS; intro g6 w HS))
  have cb := HS.cell 1 rfl
  go_upto_region 3 with (go_at_call 9; (with_reducible refine (image_Image_Right.calls k _ _ code _ _ arrs st mem true _ (hC _ HS.tail.tail) hcc (hA _ HS.tail.tail) hca HR.out).mono ?_); rintro e w_ ⟨rfl, hb⟩; replace HS := HS.below hb; clear hb)

  refine start_ (n := 8) (S := fun w' => ∃ L', Sat W0 w' (blk gb 25 #[.slice Ac code.length cc, .slice Aa arrs.length ca, .int .i64 st, .int .i64 mem] :: L')) (ds := []) #[false, false, false, false, false, false, false, false] (by kernel_rfl) rfl rfl ⟨_, HS.drew.front 1 rfl⟩ (fun hHeld => ?_)
  replace HS := HS.drew
  generalize World.drew w_ = w at HS hHeld ⊢
  refine pure_ (i := 3) (N := some 20) (v := ?_) (a' := ?_) #[false, false, false, true, false, false, false, false] rfl rfl (by kernel_rfl) (fun _ _ _ h => h) (Or.inl ⟨by rfl, ?_⟩) ?_ ?_
  rotate_left
  · intro w'
    go_simp
    with_reducible rfl
  rotate_left
  · (try simp only [Act.put, List.setIfInBounds_toArray, List.set_cons_zero, List.set_cons_succ, i64_w, i32_w])
    rfl
  refine take_ (i := 0) (N := some 17) (v := ?_) (a' := ?_) #[true, false, false, true, false, false, false, false] rfl rfl (by kernel_rfl) (fun _ _ _ h => h) (Or.inl ⟨by rfl, ?_⟩) hHeld ?_ ?_
  rotate_left
  · rintro w' ⟨L', hS⟩
    have cb := hS.cell 0 rfl
    go_simp
    with_reducible rfl
  rotate_left
  · (try simp only [Act.put, List.setIfInBounds_toArray, List.set_cons_zero, List.set_cons_succ, i64_w, i32_w])
    rfl
  refine take_ (i := 2) (N := some 19) (v := ?_) (a' := ?_) #[true, false, true, true, false, false, false, false] rfl rfl (by kernel_rfl) (fun _ _ _ h => h) (Or.inl ⟨by rfl, ?_⟩) hHeld ?_ ?_
  rotate_left
  · rintro w' ⟨L', hS⟩
    have cb := hS.cell 0 rfl
    go_simp
    with_reducible rfl
  rotate_left
  · (try simp only [Act.put, List.setIfInBounds_toArray, List.set_cons_zero, List.set_cons_succ, i64_w, i32_w])
    rfl
  refine join_ (σ := Nat × Option Addr × Nat × Nat) 2 #[true, true, true, true, true, true, false, false] (fun s => [(18, .agg (stL (beginS st)).toArray), (21, .slice s.2.1 s.2.2.1 s.2.2.2), (10, .pointer (some ⟨s.1, 0, none⟩))]) (fun s w' => Sat W0 w' (blk s.1 42 (stL z0).toArray :: row IW 2 (.slice s.2.1 s.2.2.1 s.2.2.2) (startF ins arrs mem) :: blk g6 42 (stL z0).toArray :: blk gb 25 #[.slice Ac code.length cc, .slice Aa arrs.length ca, .int .i64 st, .int .i64 mem] :: L)) ?_ (fun hcont => ?_)
  rotate_left
  · refine two_ (i := 1) (j := 5) #[true, true, true, true, false, false, false, false] #[true, false, true, true, false, true, false, false] rfl rfl rfl rfl (by kernel_rfl) (by decide) (by decide) (fun K hK => ?_) (fun K hK => ?_)
    · refine goes_ Try.func17 (by kernel_rfl) rfl #[.agg #[.slice Ac code.length cc, .slice Aa arrs.length ca, .int .i64 st, .int .i64 mem]] (by rfl) rfl rfl (by (try simp only [List.map_toArray, List.map_cons, List.map_nil]); first | done | rfl) ?_
      refine (begin_calls st mem HS).mono ?_
      rintro e w ⟨rfl, HS⟩
      refine ⟨_, rfl, ?_⟩
      refine hK.out _ _ ⟨_, HS.front 1 rfl⟩ (fun hHeld => ?_)
      clear hK K
      refine norm_ (a' := ?_) ?_ ?_
      rotate_left
      · show Act.put _ _ _ = _
        (try simp only [Act.put, List.setIfInBounds_toArray, List.set_cons_zero, List.set_cons_succ, i64_w, i32_w])
        rfl
      refine two_ (i := 4) (j := 5) #[true, true, true, true, true, false, false, false] #[true, true, true, true, false, true, false, false] rfl rfl rfl rfl (by kernel_rfl) (by decide) (by decide) (fun K hK => ?_) (fun K hK => ?_)
      · refine goes_ Try.func18 (by kernel_rfl) rfl #[.agg #[.slice Ac code.length cc, .slice Aa arrs.length ca, .int .i64 st, .int .i64 mem], .slice Ai ins.length ci] (by rfl) rfl rfl (by (try simp only [List.map_toArray, List.map_cons, List.map_nil]); first | done | rfl) ?_
        refine (start_calls (fun w h => hA w (h.tail.tail)) (fun w h => hI w (h.tail.tail)) hR.liesM hal (by omega) (by omega) HS).mono ?_
        rintro e w ⟨A, n, c, rfl, HS⟩
        refine ⟨_, rfl, ?_⟩
        refine hK.out _ _ ⟨_, HS.front 2 rfl⟩ (fun hHeld => ?_)
        clear hK K
        refine norm_ (a' := ?_) ?_ ?_
        rotate_left
        · show Act.put _ _ _ = _
          (try simp only [Act.put, List.setIfInBounds_toArray, List.set_cons_zero, List.set_cons_succ, i64_w, i32_w])
          rfl
        refine one_ (i := 5) (N := some 10) #[true, true, true, true, true, true, false, false] rfl rfl (by kernel_rfl) (by decide) (fun K hK => ?_)
        refine ev_box_step HS (by rfl) (N := 10) rfl (cs := (stL z0).toArray) (t := 42) ?hrun ?_
        (case hrun => first | (go_simp; done) | (go_simp; rfl))
        intro g w HS
        refine hK.out _ _ ⟨_, HS.front 3 rfl⟩ (fun hHeld => ?_)
        clear hK K
        refine norm_ (a' := ?_) ?_ ?_
        rotate_left
        · show Act.put _ _ _ = _
          (try simp only [Act.put, List.setIfInBounds_toArray, List.set_cons_zero, List.set_cons_succ, i64_w, i32_w])
          rfl
        exact hcont (g, A, n, c) w HS
      · refine ev_box_step HS (by rfl) (N := 10) rfl (cs := (stL z0).toArray) (t := 42) ?hrun ?_
        (case hrun => first | (go_simp; done) | (go_simp; rfl))
        intro g w HS
        refine hK.out _ _ ⟨_, HS.front 2 rfl⟩ (fun hHeld => ?_)
        clear hK K
        refine norm_ (a' := ?_) ?_ ?_
        rotate_left
        · show Act.put _ _ _ = _
          (try simp only [Act.put, List.setIfInBounds_toArray, List.set_cons_zero, List.set_cons_succ, i64_w, i32_w])
          rfl
        refine one_ (i := 4) (N := some 21) #[true, true, true, true, true, true, false, false] rfl rfl (by kernel_rfl) (by decide) (fun K hK => ?_)
        refine goes_ Try.func18 (by kernel_rfl) rfl #[.agg #[.slice Ac code.length cc, .slice Aa arrs.length ca, .int .i64 st, .int .i64 mem], .slice Ai ins.length ci] (by rfl) rfl rfl (by (try simp only [List.map_toArray, List.map_cons, List.map_nil]); first | done | rfl) ?_
        refine (start_calls (fun w h => hA w (h.tail.tail.tail)) (fun w h => hI w (h.tail.tail.tail)) hR.liesM hal (by omega) (by omega) HS).mono ?_
        rintro e w ⟨A, n, c, rfl, HS⟩
        refine ⟨_, rfl, ?_⟩
        refine hK.out _ _ ⟨_, HS.front 3 rfl⟩ (fun hHeld => ?_)
        clear hK K
        refine norm_ (a' := ?_) ?_ ?_
        rotate_left
        · show Act.put _ _ _ = _
          (try simp only [Act.put, List.setIfInBounds_toArray, List.set_cons_zero, List.set_cons_succ, i64_w, i32_w])
          rfl
        exact hcont (g, A, n, c) w HS.swap
    · refine ev_box_step HS (by rfl) (N := 10) rfl (cs := (stL z0).toArray) (t := 42) ?hrun ?_
      (case hrun => first | (go_simp; done) | (go_simp; rfl))
      intro g w HS
      refine hK.out _ _ ⟨_, HS.front 2 rfl⟩ (fun hHeld => ?_)
      clear hK K
      refine norm_ (a' := ?_) ?_ ?_
      rotate_left
      · show Act.put _ _ _ = _
        (try simp only [Act.put, List.setIfInBounds_toArray, List.set_cons_zero, List.set_cons_succ, i64_w, i32_w])
        rfl
      refine one_ (i := 1) (N := some 18) #[true, true, true, true, false, true, false, false] rfl rfl (by kernel_rfl) (by decide) (fun K hK => ?_)
      refine goes_ Try.func17 (by kernel_rfl) rfl #[.agg #[.slice Ac code.length cc, .slice Aa arrs.length ca, .int .i64 st, .int .i64 mem]] (by rfl) rfl rfl (by (try simp only [List.map_toArray, List.map_cons, List.map_nil]); first | done | rfl) ?_
      refine (begin_calls st mem HS).mono ?_
      rintro e w ⟨rfl, HS⟩
      refine ⟨_, rfl, ?_⟩
      refine hK.out _ _ ⟨_, HS.front 2 rfl⟩ (fun hHeld => ?_)
      clear hK K
      refine norm_ (a' := ?_) ?_ ?_
      rotate_left
      · show Act.put _ _ _ = _
        (try simp only [Act.put, List.setIfInBounds_toArray, List.set_cons_zero, List.set_cons_succ, i64_w, i32_w])
        rfl
      refine one_ (i := 4) (N := some 21) #[true, true, true, true, true, true, false, false] rfl rfl (by kernel_rfl) (by decide) (fun K hK => ?_)
      refine goes_ Try.func18 (by kernel_rfl) rfl #[.agg #[.slice Ac code.length cc, .slice Aa arrs.length ca, .int .i64 st, .int .i64 mem], .slice Ai ins.length ci] (by rfl) rfl rfl (by (try simp only [List.map_toArray, List.map_cons, List.map_nil]); first | done | rfl) ?_
      refine (start_calls (fun w h => hA w (h.tail.tail.tail)) (fun w h => hI w (h.tail.tail.tail)) hR.liesM hal (by omega) (by omega) HS).mono ?_
      rintro e w ⟨A, n, c, rfl, HS⟩
      refine ⟨_, rfl, ?_⟩
      refine hK.out _ _ ⟨_, HS.front 3 rfl⟩ (fun hHeld => ?_)
      clear hK K
      refine norm_ (a' := ?_) ?_ ?_
      rotate_left
      · show Act.put _ _ _ = _
        (try simp only [Act.put, List.setIfInBounds_toArray, List.set_cons_zero, List.set_cons_succ, i64_w, i32_w])
        rfl
      exact hcont (g, A, n, c) w HS.swap
  rintro ⟨g, A, n, c⟩ w HS
  refine norm_ (a' := ?_) ?_ ?_
  rotate_left
  · simp only [putAll]
    (try simp only [Act.put, List.setIfInBounds_toArray, List.set_cons_zero, List.set_cons_succ, i64_w, i32_w])
    rfl
  refine one_ (i := 6) (N := none) #[true, true, true, true, true, true, true, false] rfl rfl (by kernel_rfl) (by decide) (fun K hK => ?_)
  refine ev_store_step HS 0 rfl (by rfl) 42 (.tmp 10) (.tmp 18) rfl rfl rfl (stL (beginS st)) rfl (len32 (begin_len st)) rfl (stL_one _) ?_
  intro w HS
  refine hK.out _ _ ⟨_, HS.front 3 rfl⟩ (fun hHeld => ?_)
  clear hK K
  refine pure_ (i := 7) (N := some 11) (v := ?_) (a' := ?_) #[true, true, true, true, true, true, true, true] rfl rfl (by kernel_rfl) (fun _ _ _ h => h) (Or.inl ⟨by rfl, ?_⟩) ?_ ?_
  rotate_left
  · intro w'
    go_simp
    with_reducible rfl
  rotate_left
  · (try simp only [Act.put, List.setIfInBounds_toArray, List.set_cons_zero, List.set_cons_succ, i64_w, i32_w])
    rfl
  refine done_ (by kernel_rfl) ?_
  clear hHeld cb
  replace HS := (HS.nil k66 66).insert 2 (by simp)
  go_wp2
  go_loopg [12] (fuel.toNat + 1) (fun kq v12 w' => ∃ (s : St) (m : List Int) (obs : List S66), Aside0 (s.regs.length = 64 ∧ 0 ≤ s.steps ∧ s.steps ≤ fuel ∧ fuel + 1 ≤ s.steps + kq ∧ (obs.length : Int) ≤ 3 * s.steps ∧
      runF code fuel (beginS st) (startF ins arrs mem) = ((runN code fuel (kq - 1) s m).1, (runN code fuel (kq - 1) s m).2.1, obs ++ (runN code fuel (kq - 1) s m).2.2)) ∧
      Aside0 (Sat W0 w' (blk g 42 (stL s).toArray :: row IW 2 (.slice A n c) m :: row k66 66 v12 obs :: blk g6 42 (stL z0).toArray :: blk gb 25 #[.slice Ac code.length cc, .slice Aa arrs.length ca, .int .i64 st, .int .i64 mem] :: L)))
  case atStart => exact ⟨beginS st, startF ins arrs mem, [], ⟨begin_len st, Int.le_refl _, hf0, by show fuel + 1 ≤ (0 : Int) + _; omega, by simp [beginS, z0], rfl⟩, ⟨HS⟩⟩
  case round =>
    clear HS
    obtain ⟨s, m, obs, HM, HS'⟩ := hrel
    have HS := HS'.out
    clear HS'
    have hs := HM.out.1
    cases gk with
    | zero => have := HM.out; omega
    | succ k1 =>
      have c65 := (HS.cell 0 rfl 65).trans ((by simp : (stL s).toArray[65]? = (stL s)[65]?).trans (stL_ended hs))
      have c68 := (HS.cell 0 rfl 68).trans ((by simp : (stL s).toArray[68]? = (stL s)[68]?).trans (stL_steps hs))
      have cb := HS.cell 4 rfl
      by_cases he : s.ended = true
      · rw [he] at c65
        have HE := Aside0.mk (show runF code fuel (beginS st) (startF ins arrs mem) = (s, m, obs) by rw [HM.out.2.2.2.2.2, runN_end (.inl he), List.append_nil])
        clear he HM
        go_wp2_with (first | ((with_reducible refine gate_load (ty := 42) (p := 10) rfl ?_); go_must (refine ev_load HS 0 rfl rfl 42 (.tmp 10) rfl (N := 38) rfl rfl _ Try.underlying42 rfl (size32 hs) ?_)) | ((with_reducible refine gate_store (t := 42) (p := 6) rfl ?_); go_must (refine ev_store HS 3 rfl rfl 42 (.tmp 6) (.tmp 38) rfl rfl rfl (stL s) rfl (len32 hs) (by simp [stL_length hs]; rfl) (stL_one _) ?_); clear HS; intro w HS))
        rw [HE.out]
        exact bodyPost_ret (v := .tuple #[.agg (stL s).toArray, .slice A n c, u12, .int .i64 0]) (results_cttt Try.results11 _ _ g6 _ _ (0, 0) _ rfl (HS.blk 3 rfl) Try.underlying42 rfl (size32 hs)) rfl ⟨A, n, c, _, rfl, ((HS.erase 4).erase 3).tail.swap⟩
      · have he : s.ended = false := by simpa using he
        rw [he] at c65
        by_cases hlt : s.steps < fuel
        · have hltb : decide (s.steps < fuel) = true := decide_eq_true hlt
          have R := step_calls (wMem g A n c) (c := cc) (fun w h => hC w h.tail.tail.tail) hR.fits trivial hs HS.join
          have hk := stepF_keeps wF code s m hs
          have hrun : runN code fuel k1 s m = ((runN code fuel (k1 - 1) (stepF wF code s m).1 (stepF wF code s m).2.1).1, (runN code fuel (k1 - 1) (stepF wF code s m).1 (stepF wF code s m).2.1).2.1, (stepF wF code s m).2.2 ++ (runN code fuel (k1 - 1) (stepF wF code s m).1 (stepF wF code s m).2.1).2.2) := by
            obtain ⟨k2, rfl⟩ : ∃ k2, k1 = k2 + 1 := ⟨k1 - 1, by have := HM.out; omega⟩
            rw [runN, if_neg (by rw [he]; simp; exact hlt)]
            rfl
          obtain ⟨r, hr⟩ : ∃ r, r = stepF wF code s m := ⟨_, rfl⟩
          rw [← hr] at hk hrun
          change Calls _ _ #[.pointer (some ⟨g, 0, none⟩), .slice Ac code.length cc, .iface 44 (.slice A n c)] _ (DoPost (wMem g A n c) W0 _ (stepF wF code s m)) at R
          rw [← hr] at R
          clear hr
          have HRR := Aside0.mk R
          have HRUN := Aside0.mk hrun
          have hst := hk.2.1 he
          rw [w64 _ (by have := HM.out; omega) (by have := HM.out; omega)] at hst
          have HK := Aside0.mk (And.intro hk.1 hst)
          have hrl := hk.2.2
          have hol : obs.length ≤ 300000 := by have := HM.out; omega
          clear R hrun hst hk he
          go_wp2_with (first | (go_at_call 19; (with_reducible refine HRR.out.mono ?_); rintro e w_ ⟨v, rfl, HS_⟩; clear HS; have HS := (HS_.front 1 rfl).split; clear HS_; obtain ⟨Av, cv, rfl⟩ := HS.slice 2 rfl) | ((with_reducible refine gate_builtin (b := .append) (xs := #[.tmp 31, .tmp 36]) rfl ?_); go_must (refine ev_append k66 HS 3 (.tmp 31) (.tmp 36) 31 66 (.agg #[.int .i64 0, .int .i64 0, .int .i64 0]) 24 rfl (HS.C 2 rfl) (fun _ _ h => h) rfl rfl rfl rfl Try.underlying31 info66 rfl (by decide) (by omega) ((by omega)) ?_); clear HS; intro vo w HS))
          go_roundg k1
          case measure => have := HM.out; omega
          case rel =>
            obtain ⟨m1, m2, m3, m4, m5, m6⟩ := HM.out
            rw [show k1 + 1 - 1 = k1 from rfl, HRUN.out] at m6
            refine ⟨r.1, r.2.1, obs ++ r.2.2, ⟨HK.out.1, by rw [HK.out.2]; omega, by rw [HK.out.2]; omega, by rw [HK.out.2]; omega, by rw [HK.out.2, List.length_append]; push_cast; omega, by rw [m6, List.append_assoc]⟩, ⟨HS.erase 2⟩⟩
        · have hltb : decide (s.steps < fuel) = false := decide_eq_false hlt
          have HE := Aside0.mk (show runF code fuel (beginS st) (startF ins arrs mem) = (s, m, obs) by rw [HM.out.2.2.2.2.2, runN_end (.inr hlt), List.append_nil])
          clear he hlt HM
          go_wp2_with (first | ((with_reducible refine gate_load (ty := 42) (p := 10) rfl ?_); go_must (refine ev_load HS 0 rfl rfl 42 (.tmp 10) rfl (N := 38) rfl rfl _ Try.underlying42 rfl (size32 hs) ?_)) | ((with_reducible refine gate_store (t := 42) (p := 6) rfl ?_); go_must (refine ev_store HS 3 rfl rfl 42 (.tmp 6) (.tmp 38) rfl rfl rfl (stL s) rfl (len32 hs) (by simp [stL_length hs]; rfl) (stL_one _) ?_); clear HS; intro w HS))
          rw [HE.out]
          exact bodyPost_ret (v := .tuple #[.agg (stL s).toArray, .slice A n c, u12, .int .i64 0]) (results_cttt Try.results11 _ _ g6 _ _ (0, 0) _ rfl (HS.blk 3 rfl) Try.underlying42 rfl (size32 hs)) rfl ⟨A, n, c, _, rfl, ((HS.erase 4).erase 3).tail.swap⟩
end
end Go.Proofs.Ytkgoljbimblkhaa.B
