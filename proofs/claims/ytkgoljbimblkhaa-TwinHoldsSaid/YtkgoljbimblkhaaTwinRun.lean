/- What is seen of an image on two inputs: the contracts of Plain and of Told. -/
import Derived.Test.YtkgoljbimblkhaaTwinHold
import Derived.Test.YtkgoljbimblkhaaSep3
namespace Go.Proofs.Ytkgoljbimblkhaa.B
open Go.RowKit Go.Proofs.Ytkgoljbimblkhaa.Mine Go.Proofs.Ytkgoljbimblkhaa.Sep Go.Proofs.YtkgoljbimblkhaaW.PrintWords Go.Proofs.YtkgoljbimblkhaaW.PrintLast Go.Proofs.YtkgoljbimblkhaaW.PrintMore
set_option linter.unusedVariables false
set_option linter.unusedSimpArgs false
theorem part4 {a b c d e f : Value} : ∀ (j : Nat) v, [a, b, c, d][j]? = some v → (#[a, b, c, d, e, f] : Array Value)[0 + j]? = some v
  | 0, _, h => h
  | 1, _, h => h
  | 2, _, h => h
  | 3, _, h => h
  | j + 4, _, h => by simp at h
theorem runN_regs' (code : List S56) (fuel : Int) : ∀ (k : Nat) (s : St) (m : List Int), s.regs.length = 64 → (runN code fuel k s m).1.regs.length = 64
  | 0, s, m, h => h
  | k + 1, s, m, h => by
    rw [runN]
    split
    · exact h
    · exact runN_regs' code fuel k _ _ (stepF_keeps wF code s m h).1
theorem runN_obs' (code : List S56) (fuel : Int) : ∀ (k : Nat) (s : St) (m : List Int), s.regs.length = 64 → (runN code fuel k s m).2.2.length ≤ 3 * k
  | 0, s, m, h => by simp [runN]
  | k + 1, s, m, h => by
    rw [runN]
    split
    · simp
    · have h1 := stepF_keeps wF code s m h
      have h2 := runN_obs' code fuel k (stepF wF code s m).1 (stepF wF code s m).2.1 h1.1
      simp only [List.length_append]
      have := h1.2.2
      omega
/-- What is seen of a run. -/
def seenP (code : List S56) (st me fuel : Int) (arrs : List S60) (ins : List (List Int)) : List S66 := (runF code fuel (beginS st) (startF ins arrs me)).2.2
def seenT (code : List S56) (st me win : Int) (arrs : List S60) (ins : List (List Int)) (script : List (Int × Int)) : List S66 := (runM code (sitesF code 0) win (newX st me arrs ins) script).2
theorem seenP_len (code : List S56) (st me fuel : Int) (arrs : List S60) (ins : List (List Int)) (h : fuel ≤ 100000) : (seenP code st me fuel arrs ins).length ≤ 300000 := by
  have := runN_obs' code fuel fuel.toNat (beginS st) (startF ins arrs me) (begin_len st)
  unfold seenP runF
  omega
theorem seenT_len (code : List S56) (st me win : Int) (arrs : List S60) (ins : List (List Int)) (script : List (Int × Int)) (h : script.length ≤ 1000) : (seenT code st me win arrs ins script).length ≤ 4000 := by
  have := runM_len code (sitesF code 0) win script (newX st me arrs ins)
  unfold seenT
  omega
theorem fine_of {C : List S56} {A : List S60} {st me : Int} {ins : List (List Int)} (hr : ∃ k, image_Image_Right.f k C A st me = some true) : Fine C A st me ins := by
  have h := right_true hr.choose_spec
  exact ⟨hr, h.liesM, by have := h.a1; omega, by have := h.s0; have := h.s1; omega, h.m1, by have := h.c2; omega, h.fits⟩
abbrev made0 : Array Value := #[.int .i64 0, .bool false, .slice none 0 0, .slice none 0 0]
section
variable {W0 w : World} {L : List Chunk} {Ac : Option Addr} {cc : Nat} {code : List S56} {Aa : Option Addr} {ca : Nat} {arrs : List S60} {st me win : Int} {Ai : Option Addr} {ci : Nat} {ins : List (List Int)} {Aj : Option Addr} {cj : Nat} {jns : List (List Int)} {As : Option Addr} {cs : Nat} {script : List (Int × Int)}

set_option maxRecDepth 100000 in
set_option maxHeartbeats 2000000 in
theorem plain_bad (fuel : Int) (hI : Img L W0 Ac cc code Aa ca arrs Ai ci ins) {k : Nat} (hr : Aside0 (image_Image_Right.f k code arrs st me = some false)) (HS : Sat W0 w L) :
    Calls Try.prog 7 #[.agg #[.slice Ac code.length cc, .slice Aa arrs.length ca, .int .i64 st, .int .i64 me, .slice Ai ins.length ci, .slice Aj jns.length cj], .int .i64 fuel] w fun e w' => e = .returned (.tuple #[.agg made0, .int .i64 40]) ∧ Sat W0 w' L := by
  go_enter Try.func7, Try.ntmps7
  go_upto_region 1 with (first | ((with_reducible refine gate_dst (N := 2) rfl ?_); go_must (refine ev_box HS rfl (N := 2) rfl (cs := #[.slice Ac code.length cc, .slice Aa arrs.length ca, .int .i64 st, .int .i64 me, .slice Ai ins.length ci, .slice Aj jns.length cj]) (t := 30) ?hrun ?_); (case hrun => first | (go_simp; done) | (go_simp; rfl)); clear HS; intro gb w HS) | ((with_reducible refine gate_dst (N := 4) rfl ?_); go_must (refine ev_box HS rfl (N := 4) rfl (cs := made0) (t := 33) ?hrun ?_); (case hrun => first | (go_simp; done) | (go_simp; rfl)); clear HS; intro g4 w HS))
  have cb := HS.cell 1 rfl
  have HR := Aside0.mk (run_bad (Ai := Ai) (ci := ci) (ins := ins) fuel (fun w h => hI.c w h.tail.tail) hI.cc (fun w h => hI.a w h.tail.tail) hI.ca hr.out HS)
  go_upto_region 2 with (first | ((with_reducible refine gate_load (ty := 25) (p := 14) rfl ?_); go_must (refine ev_load_part HS 1 rfl rfl 25 (.tmp 14) rfl (N := 15) rfl 0 rfl _ Try.underlying25 rfl [.slice Ac code.length cc, .slice Aa arrs.length ca, .int .i64 st, .int .i64 me] (by kernel_rfl) part4 ?_)) | (go_at_call 11; refine HR.out.mono ?_; rintro e w_ ⟨rfl, HS_⟩; clear HS HR; have HS := HS_; clear HS_) | ((with_reducible refine gate_dst (N := 6) rfl ?_); go_must (refine ev_box HS rfl (N := 6) rfl (cs := (stL z0).toArray) (t := 42) ?hrun ?_); (case hrun => first | (go_simp; done) | (go_simp; rfl)); clear HS; intro g6 w HS) | ((with_reducible refine gate_store (t := 42) (p := 6) rfl ?_); go_must (refine ev_store HS 0 rfl rfl 42 (.tmp 6) (.tmp 20) rfl rfl rfl (stL z0) rfl (len32 rfl) rfl (stL_one _) ?_); clear HS; intro w HS))
  go_wp2_with ((with_reducible refine gate_store (t := 33) (p := 4) rfl ?_); go_must (refine ev_store HS 1 rfl rfl 33 (.tmp 4) (.tmp 26) rfl rfl rfl [.int .i64 0, .bool false, .slice none 0 0, .slice none 0 0] ?hx (by kernel_rfl) (by rfl) ?h1 ?_); (case hx => first | rfl | (go_simp; done)); (case h1 => simp [Value.oneCell']); clear HS; intro w HS)
  exact bodyPost_ret (v := .tuple #[.agg made0, .int .i64 40]) (results_ct Try.results7 _ _ g4 _ _ (0, 0) _ rfl (HS.blk 1 rfl) Try.underlying33 rfl info33) rfl ⟨rfl, HS.tail.tail.tail⟩

set_option maxRecDepth 100000 in
set_option maxHeartbeats 2000000 in
theorem plain_calls (fuel : Int) (hf0 : 0 ≤ fuel) (hf : fuel ≤ 100000) (hI : Img L W0 Ac cc code Aa ca arrs Ai ci ins) (hJ : Img L W0 Ac cc code Aa ca arrs Aj cj jns) (hF : Fine code arrs st me ins) (X Y : List S66) (hX : Aside0 (X = seenP code st me fuel arrs ins)) (hY : Aside0 (Y = seenP code st me fuel arrs jns)) (HS : Sat W0 w L) :
    Calls Try.prog 7 #[.agg #[.slice Ac code.length cc, .slice Aa arrs.length ca, .int .i64 st, .int .i64 me, .slice Ai ins.length ci, .slice Aj jns.length cj], .int .i64 fuel] w fun e w' => ∃ A1 c1 A2 c2, e = .returned (.tuple #[.agg #[.int .i64 (preO X Y), .bool (allO X Y), .slice A1 X.length c1, .slice A2 Y.length c2], .int .i64 0]) ∧
      Sat W0 w' (row KO 66 (.slice A2 Y.length c2) Y :: row KO 66 (.slice A1 X.length c1) X :: L) := by
  have hXl : X.length ≤ 1000000 := by rw [hX.out]; have := seenP_len code st me fuel arrs ins hf; omega
  obtain ⟨r, hr⟩ : ∃ r, r = runF code fuel (beginS st) (startF ins arrs me) := ⟨_, rfl⟩
  obtain ⟨s, hs⟩ : ∃ s, s = runF code fuel (beginS st) (startF jns arrs me) := ⟨_, rfl⟩
  have r6 : r.1.regs.length = 64 := by rw [hr]; exact runN_regs' code fuel fuel.toNat (beginS st) (startF ins arrs me) (begin_len st)
  have s6 : s.1.regs.length = 64 := by rw [hs]; exact runN_regs' code fuel fuel.toNat (beginS st) (startF jns arrs me) (begin_len st)
  have RX := Aside0.mk (show r.2.2 = X by rw [hX.out, hr]; rfl)
  have SY := Aside0.mk (show s.2.2 = Y by rw [hY.out, hs]; rfl)
  have HRR := Aside0.mk hr
  have HSS := Aside0.mk hs
  have R6 := Aside0.mk r6
  have S6 := Aside0.mk s6
  clear hr hs r6 s6
  go_enter Try.func7, Try.ntmps7
  go_upto_region 1 with (first | ((with_reducible refine gate_dst (N := 2) rfl ?_); go_must (refine ev_box HS rfl (N := 2) rfl (cs := #[.slice Ac code.length cc, .slice Aa arrs.length ca, .int .i64 st, .int .i64 me, .slice Ai ins.length ci, .slice Aj jns.length cj]) (t := 30) ?hrun ?_); (case hrun => first | (go_simp; done) | (go_simp; rfl)); clear HS; intro gb w HS) | ((with_reducible refine gate_dst (N := 4) rfl ?_); go_must (refine ev_box HS rfl (N := 4) rfl (cs := made0) (t := 33) ?hrun ?_); (case hrun => first | (go_simp; done) | (go_simp; rfl)); clear HS; intro g4 w HS))
  have cb := HS.cell 1 rfl
  have HR := Aside0.mk (show Calls Try.prog 11 #[.agg #[.slice Ac code.length cc, .slice Aa arrs.length ca, .int .i64 st, .int .i64 me], .slice Ai ins.length ci, .int .i64 fuel] w (fun e w' => ∃ A n c v, e = .returned (.tuple #[.agg (stL r.1).toArray, .slice A n c, v, .int .i64 0]) ∧ Sat W0 w' (row KO 66 v X :: row IW 2 (.slice A n c) r.2.1 :: _)) from by
    rw [← RX.out, HRR.out]
    exact run_calls fuel hf0 hf (fun w h => hI.c w h.tail.tail) hI.cc (fun w h => hI.a w h.tail.tail) hI.ca (fun w h => hI.i w h.tail.tail) hF.right.choose_spec HS)
  go_upto_region 2 with (first | ((with_reducible refine gate_load (ty := 25) (p := 14) rfl ?_); go_must (refine ev_load_part HS 1 rfl rfl 25 (.tmp 14) rfl (N := 15) rfl 0 rfl _ Try.underlying25 rfl [.slice Ac code.length cc, .slice Aa arrs.length ca, .int .i64 st, .int .i64 me] (by kernel_rfl) part4 ?_)) | (go_at_call 11; refine HR.out.mono ?_; rintro e w_ ⟨A, n, c, v, rfl, HS_⟩; clear HS HR; have HS := HS_; clear HS_; obtain ⟨A1, c1, rfl⟩ := HS.slice 0 rfl) | ((with_reducible refine gate_dst (N := 6) rfl ?_); go_must (refine ev_box HS rfl (N := 6) rfl (cs := (stL z0).toArray) (t := 42) ?hrun ?_); (case hrun => first | (go_simp; done) | (go_simp; rfl)); clear HS; intro g6 w HS) | ((with_reducible refine gate_store (t := 42) (p := 6) rfl ?_); go_must (refine ev_store HS 0 rfl rfl 42 (.tmp 6) (.tmp 20) rfl rfl rfl (stL r.1) rfl (len32 R6.out) (by simp [stL_length R6.out]; rfl) (stL_one _) ?_); clear HS; intro w HS))
  clear cb
  have cb := HS.cell 4 rfl
  have HR2 := Aside0.mk (show Calls Try.prog 11 #[.agg #[.slice Ac code.length cc, .slice Aa arrs.length ca, .int .i64 st, .int .i64 me], .slice Aj jns.length cj, .int .i64 fuel] w (fun e w' => ∃ A n c v, e = .returned (.tuple #[.agg (stL s.1).toArray, .slice A n c, v, .int .i64 0]) ∧ Sat W0 w' (row KO 66 v Y :: row IW 2 (.slice A n c) s.2.1 :: _)) from by
    rw [← SY.out, HSS.out]
    exact run_calls fuel hf0 hf (fun w h => hJ.c w h.tail.tail.tail.tail.tail) hI.cc (fun w h => hJ.a w h.tail.tail.tail.tail.tail) hI.ca (fun w h => hJ.i w h.tail.tail.tail.tail.tail) hF.right.choose_spec HS)
  go_upto_region 5 with (first | ((with_reducible refine gate_load (ty := 25) (p := 29) rfl ?_); go_must (refine ev_load_part HS 4 rfl rfl 25 (.tmp 29) rfl (N := 30) rfl 0 rfl _ Try.underlying25 rfl [.slice Ac code.length cc, .slice Aa arrs.length ca, .int .i64 st, .int .i64 me] (by kernel_rfl) part4 ?_)) | (go_at_call 11; refine HR2.out.mono ?_; rintro e w_ ⟨A', n', c', v', rfl, HS_⟩; clear HS HR2; have HS := HS_; clear HS_; obtain ⟨A2, c2, rfl⟩ := HS.slice 0 rfl) | ((with_reducible refine gate_dst (N := 10) rfl ?_); go_must (refine ev_box HS rfl (N := 10) rfl (cs := (stL z0).toArray) (t := 42) ?hrun ?_); (case hrun => first | (go_simp; done) | (go_simp; rfl)); clear HS; intro g10 w HS) | ((with_reducible refine gate_store (t := 42) (p := 10) rfl ?_); go_must (refine ev_store HS 0 rfl rfl 42 (.tmp 10) (.tmp 35) rfl rfl rfl (stL s.1) rfl (len32 S6.out) (by simp [stL_length S6.out]; rfl) (stL_one _) ?_); clear HS; intro w HS))
  have HH := Aside0.mk (hold_calls (ca := c1) (cb := c2) (fun w h => h.C 4 rfl) (fun w h => h.C 1 rfl) hXl HS)
  go_wp2_with (first | (go_at_call 14; refine HH.out.mono ?_; rintro e w_ ⟨rfl, HS_⟩; clear HS HH; have HS := HS_; clear HS_) | ((with_reducible refine gate_store (t := 33) (p := 4) rfl ?_); go_must (refine ev_store HS 6 rfl rfl 33 (.tmp 4) (.tmp 45) rfl rfl rfl [.int .i64 (preO X Y), .bool (allO X Y), .slice A1 X.length c1, .slice A2 Y.length c2] ?hx (by kernel_rfl) (by rfl) ?h1 ?_); (case hx => first | rfl | (go_simp; done)); (case h1 => simp [Value.oneCell']); clear HS; intro w HS))
  exact bodyPost_ret (v := .tuple #[.agg #[.int .i64 (preO X Y), .bool (allO X Y), .slice A1 X.length c1, .slice A2 Y.length c2], .int .i64 0]) (results_ct Try.results7 _ _ g4 _ _ (0, 0) _ rfl (HS.blk 6 rfl) Try.underlying33 rfl info33) rfl ⟨A1, c1, A2, c2, rfl, (((((HS.erase 7).erase 6).erase 5).tail).erase 1).erase 1⟩
end
end Go.Proofs.Ytkgoljbimblkhaa.B
