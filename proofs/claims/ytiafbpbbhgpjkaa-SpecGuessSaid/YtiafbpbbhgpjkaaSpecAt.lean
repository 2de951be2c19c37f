/- Layer 19's machine so many steps on, as the laws of layer 20 reckon it; and whether it is what is known. -/
import Derived.Test.YtiafbpbbhgpjkaaSpecLaw
namespace Go.Proofs.Ytiafbpbbhgpjkaa.B
open Go.RowKit Go.Proofs.Ytiafbpbbhgpjkaa.Mine Go.Proofs.Ytiafbpbbhgpjkaa.Sep Go.Proofs.YtiafbpbbhgpjkaaW.PrintWords Go.Proofs.YtiafbpbbhgpjkaaW.PrintLast Go.Proofs.YtiafbpbbhgpjkaaW.PrintMore
set_option linter.unusedVariables false
set_option linter.unusedSimpArgs false
theorem wRun_regs (code : List S48) : ∀ (k : Nat) (p : St × List Int), p.1.regs.length = 64 → (wRun code k p).1.regs.length = 64
  | 0, p, h => h
  | k + 1, p, h => by rw [wRun]; exact wRun_regs code k _ (stepF_regs wF code p.1 p.2 h)
theorem wWr_length (m : List Int) (a v : Int) : (wWr m a v).1.length = m.length := by unfold wWr; split <;> simp
theorem doF_mlen (i : S48) (s : St) (m : List Int) : (doF wF i s m).2.1.length = m.length := by
  have hr : (reachF wF i s m).2.1.length = m.length := by unfold reachF; split <;> split <;> first | rfl | exact wWr_length m _ _
  have hc : (callF wF i s m).2.1.length = m.length := by unfold callF; split <;> split <;> first | rfl | exact wWr_length m _ _
  unfold doF
  split
  · rfl
  split
  · rfl
  split
  · split <;> rfl
  split
  · exact hr
  split
  · rfl
  split
  · split <;> rfl
  split
  · exact hc
  split
  · rfl
  split <;> rfl
theorem stepF_mlen (code : List S48) (s : St) (m : List Int) : (stepF wF code s m).2.1.length = m.length := by
  unfold stepF
  split
  · rfl
  split
  · rfl
  · exact doF_mlen _ _ _
theorem wRun_mem (code : List S48) : ∀ (k : Nat) (p : St × List Int), (wRun code k p).2.length = p.2.length
  | 0, p => rfl
  | k + 1, p => by rw [wRun, wRun_mem code k]; exact stepF_mlen code p.1 p.2
section
variable {W0 w : World} {L : List Chunk} {Ac : Option Addr} {cc : Nat} {code : List S48} {Aa : Option Addr} {ca : Nat} {arrs : List S72} {st me win : Int} {Ai : Option Addr} {ci : Nat} {ins : List (List Int)}

set_option maxRecDepth 100000 in
set_option maxHeartbeats 1000000 in
theorem at_calls (hI : Img L W0 Ac cc code Aa ca arrs Ai ci ins) (hF : Fine code arrs st me ins) (n : Nat) (hn : n ≤ 100000) (HS : Sat W0 w L) :
    Calls Try.prog 21 #[.agg #[.slice Ac code.length cc, .slice Aa arrs.length ca, .int .i64 st, .int .i64 me], .slice Ai ins.length ci, .int .i64 (n : Int)] w fun e w' => ∃ v, e = .returned (.tuple #[.agg (stL (wRun code n (beginS st, startF ins arrs me)).1).toArray, v]) ∧ Sat W0 w' (row IW 2 v (wRun code n (beginS st, startF ins arrs me)).2 :: L) := by
  go_enter Try.func21, Try.ntmps21
  go_upto_region 1 with (first | ((with_reducible refine gate_dst (N := 3) rfl ?_); go_must (refine ev_box HS rfl (N := 3) rfl (cs := #[.slice Ac code.length cc, .slice Aa arrs.length ca, .int .i64 st, .int .i64 me]) (t := 25) ?hrun ?_); (case hrun => first | (go_simp; done) | (go_simp; rfl)); clear HS; intro gb w HS) | ((with_reducible refine gate_dst (N := 6) rfl ?_); go_must (refine ev_box HS rfl (N := 6) rfl (cs := (stL z0).toArray) (t := 37) ?hrun ?_); (case hrun => first | (go_simp; done) | (go_simp; rfl)); clear HS; intro g6 w HS))
  go_upto_region 2 with (first | ((with_reducible refine gate_load (ty := 25) (p := 3) rfl ?_); go_must (refine ev_load HS 1 rfl rfl 25 (.tmp 3) rfl (N := 11) rfl rfl _ Try.underlying25 rfl (by kernel_rfl) ?_)) | (go_at_call 12; (with_reducible refine (begin_calls st me HS).mono ?_); rintro e w_ ⟨rfl, HS_⟩; clear HS; have HS := HS_; clear HS_) | ((with_reducible refine gate_dst (N := 8) rfl ?_); go_must (refine ev_box HS rfl (N := 8) rfl (cs := (stL z0).toArray) (t := 37) ?hrun ?_); (case hrun => first | (go_simp; done) | (go_simp; rfl)); clear HS; intro g8 w HS) | ((with_reducible refine gate_store (t := 37) (p := 8) rfl ?_); go_must (refine ev_store HS 0 rfl rfl 37 (.tmp 8) (.tmp 12) rfl rfl rfl (stL (beginS st)) rfl (len32 (begin_len st)) rfl (stL_one _) ?_); clear HS; intro w HS))
  go_upto_region 3 with (first | ((with_reducible refine gate_load (ty := 25) (p := 3) rfl ?_); go_must (refine ev_load HS 2 rfl rfl 25 (.tmp 3) rfl (N := 13) rfl rfl _ Try.underlying25 rfl (by kernel_rfl) ?_)) | (go_at_call 13; refine (start_calls (ca := ca) (ci := ci) (((hI.cons _).cons _).cons _).a (((hI.cons _).cons _).cons _).i hF.lies hF.al hF.m0 hF.m1 HS).mono ?_; rintro e w_ ⟨Am, lm, cm, rfl, HS_⟩; clear HS; have HS := HS_; clear HS_))
  replace HS : Sat W0 w_ (wch g8 Am lm cm (wRun code 0 (beginS st, startF ins arrs me)).1 (wRun code 0 (beginS st, startF ins arrs me)).2 :: blk g6 37 (stL z0).toArray :: blk gb 25 #[.slice Ac code.length cc, .slice Aa arrs.length ca, .int .i64 st, .int .i64 me] :: L) := Sat.join (HS.swap)
  go_wp2
  go_loopg [10] (n + 1) (fun kq v10 w' => ∃ (i : Nat), v10 = .int .i64 (i : Int) ∧ Aside0 (i ≤ n ∧ n + 1 ≤ kq + i) ∧
      Aside0 (Sat W0 w' (wch g8 Am lm cm (wRun code i (beginS st, startF ins arrs me)).1 (wRun code i (beginS st, startF ins arrs me)).2 :: blk g6 37 (stL z0).toArray :: blk gb 25 #[.slice Ac code.length cc, .slice Aa arrs.length ca, .int .i64 st, .int .i64 me] :: L)))
  case atStart => exact ⟨0, rfl, ⟨by omega, by omega⟩, ⟨HS⟩⟩
  case round =>
    clear HS
    obtain ⟨i, rfl, HJ, HS'⟩ := hrel
    have HS := HS'.out
    clear HS'
    cases gk with
    | zero => have := HJ.out; omega
    | succ k1 =>
      obtain ⟨I, hI_⟩ : ∃ I : Int, (i : Int) = I := ⟨_, rfl⟩
      rw [hI_]
      have hrg := wRun_regs code i (beginS st, startF ins arrs me) rfl
      have HW := Aside0.mk (wRun_succ code i (beginS st, startF ins arrs me))
      have HE := Aside0.mk (show (wRun code i (beginS st, startF ins arrs me)).1.ended = true → wRun code n (beginS st, startF ins arrs me) = wRun code i (beginS st, startF ins arrs me) from fun he => by
        have := HJ.out.1
        obtain ⟨d, hd⟩ : ∃ d, n = i + d := ⟨n - i, by omega⟩
        rw [hd, wRun_add, wRun_end code he])
      obtain ⟨Q, hQ⟩ : ∃ Q, Q = wRun code i (beginS st, startF ins arrs me) := ⟨_, rfl⟩
      rw [← hQ] at HS hrg HW HE
      have HQ := Aside0.mk hQ
      have HII := Aside0.mk hI_
      clear hQ hI_
      have c65 : wr.cell? ⟨g8, 65, none⟩ = some (.bool Q.1.ended) := by rw [(Sat.split HS).cell 0 rfl 65, List.getElem?_toArray]; exact stL_ended hrg
      by_cases hk : I < (n : Int)
      · have hkb : decide (I < (n : Int)) = true := decide_eq_true hk
        have hwi : wrap64 (I + 1) = I + 1 := w64 _ (by have := HII.out; omega) (by omega)
        have HKK := Aside0.mk hk
        clear hk
        cases he : Q.1.ended with
        | true =>
          rw [he] at c65
          have HE2 := Aside0.mk (HE.out he)
          clear he
          replace HS := Sat.split HS
          go_wp2_with (first | ((with_reducible refine gate_load (ty := 37) (p := 8) rfl ?_); go_must (refine ev_load HS 0 rfl rfl 37 (.tmp 8) rfl (N := 31) rfl rfl _ Try.underlying37 rfl (size32 hrg) ?_)) | ((with_reducible refine gate_store (t := 37) (p := 6) rfl ?_); go_must (refine ev_store HS 2 rfl rfl 37 (.tmp 6) (.tmp 31) rfl rfl rfl (stL Q.1) rfl (len32 hrg) (by rw [stL_length hrg]; rfl) (stL_one _) ?_); clear HS; intro w HS))
          obtain ⟨e1, e2⟩ := HS.cap 1 rfl
          refine bodyPost_ret (v := .tuple #[.agg (stL Q.1).toArray, .slice Am lm cm]) (results_ct (p := 6) (u := 7) (ty := 37) rfl _ w g6 _ _ _ _ rfl (HS.blk 2 rfl) Try.underlying37 rfl (size32 hrg)) rfl ⟨.slice Am lm cm, ?_, ?_⟩
          · rw [HE2.out]
          · rw [HE2.out]; exact (HS.tail.erase 1).erase 1
        | false =>
          rw [he] at c65
          have cb := HS.cell 2 rfl
          go_upto_region 6 with (fail)
          have HStep := Aside0.mk (step_calls (c := cc) (wMem g8 Am lm cm) (s := Q.1) (m := Q.2) (L := blk g6 37 (stL z0).toArray :: blk gb 25 #[.slice Ac code.length cc, .slice Aa arrs.length ca, .int .i64 st, .int .i64 me] :: L) (fun w h => hI.c w h.tail.tail) hF.fit trivial hrg HS)
          clear c65
          go_upto_region 5 with (go_at_call 16; refine HStep.out.mono ?_; rintro e w_ ⟨v, rfl, HS_⟩; clear HS HStep cb; have HS := HS_; clear HS_)
          go_wp2
          go_roundg k1
          case measure => omega
          case rel =>
            refine ⟨i + 1, by rw [← HII.out]; first | rfl | (rw [w64 ((i : Int) + 1) (by omega) (by have := HJ.out; omega)]; rfl), ⟨by have := HKK.out; have := HII.out; omega, by have := HJ.out; omega⟩, ⟨?_⟩⟩
            rw [HW.out]
            exact HS.tail
      · have hkb : decide (I < (n : Int)) = false := decide_eq_false hk
        have hin : i = n := by have := HJ.out.1; have := HII.out; omega
        have HIN := Aside0.mk hin
        clear hin hk
        replace HS := Sat.split HS
        go_wp2_with (first | ((with_reducible refine gate_load (ty := 37) (p := 8) rfl ?_); go_must (refine ev_load HS 0 rfl rfl 37 (.tmp 8) rfl (N := 31) rfl rfl _ Try.underlying37 rfl (size32 hrg) ?_)) | ((with_reducible refine gate_store (t := 37) (p := 6) rfl ?_); go_must (refine ev_store HS 2 rfl rfl 37 (.tmp 6) (.tmp 31) rfl rfl rfl (stL Q.1) rfl (len32 hrg) (by rw [stL_length hrg]; rfl) (stL_one _) ?_); clear HS; intro w HS))
        refine bodyPost_ret (v := .tuple #[.agg (stL Q.1).toArray, .slice Am lm cm]) (results_ct (p := 6) (u := 7) (ty := 37) rfl _ w g6 _ _ _ _ rfl (HS.blk 2 rfl) Try.underlying37 rfl (size32 hrg)) rfl ⟨.slice Am lm cm, ?_, ?_⟩
        · rw [← HIN.out, ← HQ.out]
        · rw [← HIN.out, ← HQ.out]; exact (HS.tail.erase 1).erase 1

set_option maxRecDepth 100000 in
set_option maxHeartbeats 1000000 in
theorem knows_calls {g : Nat} {A : Option Addr} {n c : Nat} {vt : Value} {X : SM} {N : Nat} (hI : Img L W0 Ac cc code Aa ca arrs Ai ci ins) (hF : Fine code arrs st me ins) (hinv : Inv code (beginS st, startF ins arrs me) N X) (hN : N ≤ 100000) (HS : Sat W0 w (mch g A n c (.slice Ac code.length cc) vt win X :: L)) :
    Calls Try.prog 19 #[.agg #[.slice Ac code.length cc, .slice Aa arrs.length ca, .int .i64 st, .int .i64 me], .slice Ai ins.length ci, .pointer (some ⟨g, 0, none⟩)] w fun e w' => e = .returned (.bool true) ∧ Sat W0 w' (mch g A n c (.slice Ac code.length cc) vt win X :: L) := by
  have hml : X.mem.length ≤ 1048576 := by
    rw [hinv.mem]
    show (startF ins arrs me).length ≤ 1048576
    unfold startF
    rw [startL_length, List.length_replicate]
    have := hF.m1
    omega
  have hkl : (kwnB X).length ≤ 1000000 := by
    unfold kwnB
    cases hs : X.saved with
    | none => have := hinv.len; dsimp only; omega
    | some q => have := (hinv.sav q hs).2.2.1; dsimp only; omega
  have hMl : (kwnM X).length ≤ 1048576 := by unfold kwnM; rw [wrs_length]; exact hml
  have hks : (kwnS X).regs.length = 64 ∧ 0 ≤ (kwnS X).steps ∧ (kwnS X).steps ≤ N := by
    have h1 := hinv.st1
    unfold kwnS
    cases hs : X.saved with
    | none => exact ⟨hinv.regs, hinv.st0, h1⟩
    | some q => obtain ⟨a, _, _, b, d⟩ := hinv.sav q hs; exact ⟨a, b, by dsimp only; omega⟩
  have hkn := hinv.known
  have HKN := Aside0.mk (show Calls Try.prog 20 #[.pointer (some ⟨g, 0, none⟩)] w (fun e w' => ∃ v, e = .returned (.tuple #[.agg (stL (kwnS X)).toArray, v]) ∧ Sat W0 w' (row IW 2 v (kwnM X) :: mch g A n c (.slice Ac code.length cc) vt win X :: L)) from known_calls hml (by have := hinv.len; omega) hkl HS)
  clear HKN
  have HKC := Aside0.mk (fun {w : World} {L : List Chunk} (HS : Sat W0 w (mch g A n c (.slice Ac code.length cc) vt win X :: L)) => known_calls hml (by have := hinv.len; omega) hkl HS)
  obtain ⟨S, hS⟩ : ∃ S, S = kwnS X := ⟨_, rfl⟩
  obtain ⟨M, hM⟩ : ∃ M, M = kwnM X := ⟨_, rfl⟩
  rw [← hS] at hks hkn HKC
  rw [← hM] at hMl hkn HKC
  obtain ⟨hs, s0, s1⟩ := hks
  obtain ⟨K, hK⟩ : ∃ K : Nat, S.steps = (K : Int) := ⟨S.steps.toNat, by omega⟩
  rw [show S.steps.toNat = K by omega] at hkn
  have hKN : K ≤ 100000 := by omega
  have hsteps := Aside0.mk hK
  clear hK s0 s1 hS hM
  obtain ⟨lm, hlm⟩ : ∃ lm, M.length = lm := ⟨_, rfl⟩
  have HLM := Aside0.mk hlm
  have HKN := Aside0.mk hkn
  clear hkn hinv hlm
  go_enter Try.func19, Try.ntmps19
  go_upto_region 1 with ((with_reducible refine gate_dst (N := 3) rfl ?_); go_must (refine ev_box HS rfl (N := 3) rfl (cs := #[.slice Ac code.length cc, .slice Aa arrs.length ca, .int .i64 st, .int .i64 me]) (t := 25) ?hrun ?_); (case hrun => first | (go_simp; done) | (go_simp; rfl)); clear HS; intro gb w HS)
  go_upto_region 2 with (first | (go_at_call 20; refine (HKC.out HS.swap).mono ?_; rintro e w_ ⟨v, rfl, HS_⟩; clear HS; have HS := HS_; clear HS_; obtain ⟨V1, c1, rfl⟩ := HS.slice 0 rfl; rw [HLM.out] at HS ⊢) | ((with_reducible refine gate_dst (N := 7) rfl ?_); go_must (refine ev_box HS rfl (N := 7) rfl (cs := (stL z0).toArray) (t := 37) ?hrun ?_); (case hrun => first | (go_simp; done) | (go_simp; rfl)); clear HS; intro g7 w HS) | ((with_reducible refine gate_store (t := 37) (p := 7) rfl ?_); go_must (refine ev_store HS 0 rfl rfl 37 (.tmp 7) (.tmp 15) rfl rfl rfl (stL S) rfl (len32 hs) (by rw [stL_length hs]; rfl) (stL_one _) ?_); clear HS; intro w HS))
  have c68 : w.cell? ⟨g7, 68, none⟩ = some (.int .i64 (K : Int)) := by rw [HS.cell 0 rfl 68, ← hsteps.out, List.getElem?_toArray]; exact stL_steps hs
  replace HS : Sat W0 w (blk g7 37 (stL S).toArray :: row IW 2 (.slice V1 lm c1) M :: mch g A n c (.slice Ac code.length cc) vt win X :: blk gb 25 #[.slice Ac code.length cc, .slice Aa arrs.length ca, .int .i64 st, .int .i64 me] :: L) := HS
  have HAT := Aside0.mk (show Calls Try.prog 21 #[.agg #[.slice Ac code.length cc, .slice Aa arrs.length ca, .int .i64 st, .int .i64 me], .slice Ai ins.length ci, .int .i64 (K : Int)] w (fun e w' => ∃ v, e = .returned (.tuple #[.agg (stL S).toArray, v]) ∧ Sat W0 w' (row IW 2 v M :: blk g7 37 (stL S).toArray :: row IW 2 (.slice V1 lm c1) M :: mch g A n c (.slice Ac code.length cc) vt win X :: blk gb 25 #[.slice Ac code.length cc, .slice Aa arrs.length ca, .int .i64 st, .int .i64 me] :: L)) from by
    have h := at_calls ((((hI.cons (blk gb 25 #[.slice Ac code.length cc, .slice Aa arrs.length ca, .int .i64 st, .int .i64 me])).cons (mch g A n c (.slice Ac code.length cc) vt win X)).cons (row IW 2 (.slice V1 lm c1) M)).cons (blk g7 37 (stL S).toArray)) hF K hKN HS
    rw [HKN.out] at h
    exact h)
  go_upto_region 3 with (first | ((with_reducible refine gate_load (ty := 25) (p := 3) rfl ?_); go_must (refine ev_load HS 3 rfl rfl 25 (.tmp 3) rfl (N := 18) rfl rfl _ Try.underlying25 rfl (by kernel_rfl) ?_)) | (go_at_call 21; refine HAT.out.mono ?_; rintro e w_ ⟨v, rfl, HS_⟩; clear HS HAT c68; have HS := HS_; clear HS_; obtain ⟨V2, c2, rfl⟩ := HS.slice 0 rfl; rw [HLM.out] at HS ⊢) | ((with_reducible refine gate_dst (N := 9) rfl ?_); go_must (refine ev_box HS rfl (N := 9) rfl (cs := (stL z0).toArray) (t := 37) ?hrun ?_); (case hrun => first | (go_simp; done) | (go_simp; rfl)); clear HS; intro g9 w HS) | ((with_reducible refine gate_store (t := 37) (p := 9) rfl ?_); go_must (refine ev_store HS 0 rfl rfl 37 (.tmp 9) (.tmp 23) rfl rfl rfl (stL S) rfl (len32 hs) (by rw [stL_length hs]; rfl) (stL_one _) ?_); clear HS; intro w HS))
  replace HS : Sat W0 w (blk g9 37 (stL S).toArray :: row IW 2 (.slice V2 lm c2) M :: blk g7 37 (stL S).toArray :: row IW 2 (.slice V1 lm c1) M :: mch g A n c (.slice Ac code.length cc) vt win X :: blk gb 25 #[.slice Ac code.length cc, .slice Aa arrs.length ca, .int .i64 st, .int .i64 me] :: L) := HS
  have hne := same_neq S hs
  have hlb : ((lm : Int) != (lm : Int)) = false := bne_self_eq_false _
  go_upto_region 5 with (first | ((with_reducible refine gate_load (ty := 37) (p := 7) rfl ?_); go_must (refine ev_load HS 2 rfl rfl 37 (.tmp 7) rfl (N := 25) rfl rfl _ Try.underlying37 rfl (size32 hs) ?_)) | ((with_reducible refine gate_load (ty := 37) (p := 9) rfl ?_); go_must (refine ev_load HS 0 rfl rfl 37 (.tmp 9) rfl (N := 26) rfl rfl _ Try.underlying37 rfl (size32 hs) ?_)))
  clear hne hlb
  go_wp2
  go_loopg [37] (lm + 1) (fun kq v37 w' => ∃ (i : Nat), v37 = .int .i64 (i : Int) ∧ Aside0 (i ≤ lm ∧ lm + 1 ≤ kq + i) ∧ Aside0 (Sat W0 w' (blk g9 37 (stL S).toArray :: row IW 2 (.slice V2 lm c2) M :: blk g7 37 (stL S).toArray :: row IW 2 (.slice V1 lm c1) M :: mch g A n c (.slice Ac code.length cc) vt win X :: blk gb 25 #[.slice Ac code.length cc, .slice Aa arrs.length ca, .int .i64 st, .int .i64 me] :: L)))
  case atStart => exact ⟨0, rfl, ⟨by omega, by omega⟩, ⟨HS⟩⟩
  case round =>
    clear HS
    obtain ⟨i, rfl, HJ, HS'⟩ := hrel
    have HS := HS'.out
    clear HS'
    cases gk with
    | zero => have := HJ.out; omega
    | succ k1 =>
      by_cases hk : i < lm
      · obtain ⟨I, hI_⟩ : ∃ I : Int, (i : Int) = I := ⟨_, rfl⟩
        have p1 : 0 ≤ I := by omega
        have q1 : I < (lm : Int) := by omega
        have c1_ : decide (I < (lm : Int)) = true := decide_eq_true q1
        obtain ⟨a1, rfl, _⟩ := Kd.at_int (HS.C 3 rfl) I p1 q1
        obtain ⟨a2, rfl, _⟩ := Kd.at_int (HS.C 1 rfl) I p1 q1
        have hwi : wrap64 (I + 1) = I + 1 := w64 _ (by omega) (by have := HLM.out; omega)
        rw [hI_]
        have HII := Aside0.mk hI_
        clear hI_ hk
        have r1 := eq_true p1
        have r2 := eq_true q1
        have hbn : (rd M I != rd M I) = false := bne_self_eq_false _
        go_upto_region 8 with (fail)
        refine start_ (n := 9) (S := fun w' => Sat W0 w' (blk g9 37 (stL S).toArray :: row IW 2 (.slice (some a2) lm c2) M :: blk g7 37 (stL S).toArray :: row IW 2 (.slice (some a1) lm c1) M :: mch g A n c (.slice Ac code.length cc) vt win X :: blk gb 25 #[.slice Ac code.length cc, .slice Aa arrs.length ca, .int .i64 st, .int .i64 me] :: L)) (ds := []) #[false, false, false, false, false, false, false, false, false] (by kernel_rfl) rfl rfl HS.drew (fun hHeld => ?_)
        replace HS := HS.drew
        generalize World.drew wr = w at HS hHeld ⊢
        refine pure_ (i := 0) (N := some 40) (v := ?_) (a' := ?_) #[true, false, false, false, false, false, false, false, false] rfl rfl (by kernel_rfl) (fun _ _ _ h => h) (Or.inl ⟨by rfl, ?_⟩) ?_ ?_
        rotate_left
        · intro w'
          go_simp
          with_reducible rfl
        rotate_left
        · (try simp only [Act.put, List.setIfInBounds_toArray, List.set_cons_zero, List.set_cons_succ, i64_w, i32_w])
          rfl
        refine pure_ (i := 1) (N := some 41) (v := ?_) (a' := ?_) #[true, true, false, false, false, false, false, false, false] rfl rfl (by kernel_rfl) (fun _ _ _ h => h) (Or.inl ⟨by rfl, ?_⟩) ?_ ?_
        rotate_left
        · intro w'
          go_simp
          with_reducible rfl
        rotate_left
        · (try simp only [Act.put, List.setIfInBounds_toArray, List.set_cons_zero, List.set_cons_succ, i64_w, i32_w])
          rfl
        refine pure_ (i := 2) (N := some 42) (v := ?_) (a' := ?_) #[true, true, true, false, false, false, false, false, false] rfl rfl (by kernel_rfl) (fun _ _ _ h => h) (Or.inl ⟨by rfl, ?_⟩) ?_ ?_
        rotate_left
        · intro w'
          go_simp
          with_reducible rfl
        rotate_left
        · (try simp only [Act.put, List.setIfInBounds_toArray, List.set_cons_zero, List.set_cons_succ, i64_w, i32_w])
          rfl
        refine take_ (i := 3) (N := some 43) (v := ?_) (a' := ?_) #[true, true, true, true, false, false, false, false, false] rfl rfl (by kernel_rfl) (fun _ _ _ h => h) (Or.inl ⟨by rfl, ?_⟩) hHeld ?_ ?_
        rotate_left
        · rintro w' hS
          obtain ⟨b1, e1, x1⟩ := Kd.at_int (hS.C 3 rfl) I p1 q1
          cases e1
          obtain ⟨b2, e2, x2⟩ := Kd.at_int (hS.C 1 rfl) I p1 q1
          cases e2
          go_simp
          with_reducible rfl
        rotate_left
        · (try simp only [Act.put, List.setIfInBounds_toArray, List.set_cons_zero, List.set_cons_succ, i64_w, i32_w])
          rfl
        refine pure_ (i := 4) (N := some 44) (v := ?_) (a' := ?_) #[true, true, true, true, true, false, false, false, false] rfl rfl (by kernel_rfl) (fun _ _ _ h => h) (Or.inl ⟨by rfl, ?_⟩) ?_ ?_
        rotate_left
        · intro w'
          go_simp
          with_reducible rfl
        rotate_left
        · (try simp only [Act.put, List.setIfInBounds_toArray, List.set_cons_zero, List.set_cons_succ, i64_w, i32_w])
          rfl
        refine pure_ (i := 5) (N := some 45) (v := ?_) (a' := ?_) #[true, true, true, true, true, true, false, false, false] rfl rfl (by kernel_rfl) (fun _ _ _ h => h) (Or.inl ⟨by rfl, ?_⟩) ?_ ?_
        rotate_left
        · intro w'
          go_simp
          with_reducible rfl
        rotate_left
        · (try simp only [Act.put, List.setIfInBounds_toArray, List.set_cons_zero, List.set_cons_succ, i64_w, i32_w])
          rfl
        refine pure_ (i := 6) (N := some 46) (v := ?_) (a' := ?_) #[true, true, true, true, true, true, true, false, false] rfl rfl (by kernel_rfl) (fun _ _ _ h => h) (Or.inl ⟨by rfl, ?_⟩) ?_ ?_
        rotate_left
        · intro w'
          go_simp
          with_reducible rfl
        rotate_left
        · (try simp only [Act.put, List.setIfInBounds_toArray, List.set_cons_zero, List.set_cons_succ, i64_w, i32_w])
          rfl
        refine take_ (i := 7) (N := some 47) (v := ?_) (a' := ?_) #[true, true, true, true, true, true, true, true, false] rfl rfl (by kernel_rfl) (fun _ _ _ h => h) (Or.inl ⟨by rfl, ?_⟩) hHeld ?_ ?_
        rotate_left
        · rintro w' hS
          obtain ⟨b1, e1, x1⟩ := Kd.at_int (hS.C 3 rfl) I p1 q1
          cases e1
          obtain ⟨b2, e2, x2⟩ := Kd.at_int (hS.C 1 rfl) I p1 q1
          cases e2
          go_simp
          with_reducible rfl
        rotate_left
        · (try simp only [Act.put, List.setIfInBounds_toArray, List.set_cons_zero, List.set_cons_succ, i64_w, i32_w])
          rfl
        refine pure_ (i := 8) (N := some 48) (v := ?_) (a' := ?_) #[true, true, true, true, true, true, true, true, true] rfl rfl (by kernel_rfl) (fun _ _ _ h => h) (Or.inl ⟨by rfl, ?_⟩) ?_ ?_
        rotate_left
        · intro w'
          go_simp
          with_reducible rfl
        rotate_left
        · (try simp only [Act.put, List.setIfInBounds_toArray, List.set_cons_zero, List.set_cons_succ, i64_w, i32_w])
          rfl
        refine done_ (by kernel_rfl) ?_
        clear hHeld
        go_wp2
        go_roundg k1
        case measure => omega
        case rel => exact ⟨i + 1, by rw [← HII.out]; first | rfl | (rw [w64 ((i : Int) + 1) (by omega) (by have := HJ.out; have := HLM.out; omega)]; rfl), ⟨by have := of_decide_eq_true c1_; have := HII.out; omega, by have := HJ.out; omega⟩, ⟨HS⟩⟩
      · have hkk : i = lm := by have := HJ.out.1; omega
        subst hkk
        have hkb : decide (i < i) = false := decide_eq_false (Nat.lt_irrefl _)
        go_wp2
        go_ret
        exact ⟨rfl, ((HS.tail.tail.tail.tail).erase 1)⟩

end
end Go.Proofs.Ytiafbpbbhgpjkaa.B
