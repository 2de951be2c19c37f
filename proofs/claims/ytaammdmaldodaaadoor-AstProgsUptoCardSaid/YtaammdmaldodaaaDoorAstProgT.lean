/- Prog.Text: a program's text. -/
import Derived.Test.YtaammdmaldodaaaDoorAstProgP
namespace Go.Proofs.YtaammdmaldodaaaDoor.B
open Go.RowKit Go.Proofs.YtaammdmaldodaaaDoor.Mine Go.Proofs.YtaammdmaldodaaaDoor.Sep Go.Proofs.YtaammdmaldodaaaDoorW.PrintWords Go.Proofs.YtaammdmaldodaaaDoorW.PrintLast Go.Proofs.YtaammdmaldodaaaDoorW.PrintMore
set_option linter.unusedVariables false
set_option linter.unusedSimpArgs false
theorem reps_strs {w : World} {base : Nat} {okp : Nat → Prop} (a b c : List UInt8) : Reps (Kd.string.M w base okp) 1 [bs a, bs b, bs c] [.string (bs a), .string (bs b), .string (bs c)] :=
  (((Reps.none _ _).snoc (show Kd.string.M w base okp (bs a) [.string (bs a)] from rfl) rfl).snoc (show Kd.string.M w base okp (bs b) [.string (bs b)] from rfl) rfl).snoc (show Kd.string.M w base okp (bs c) [.string (bs c)] from rfl) rfl

theorem str_at {w : World} {A : Option Addr} {n : Nat} {xs : List ByteArray} (h : Kd.C Kd.string w A n xs) (i : Nat) (hi : i < n) : ∃ ad, A = some ad ∧ w.cell? (ad.add i) = some (.string (xs.getD i ⟨#[]⟩)) := by
  obtain ⟨ad, c, e, _, hK, hc⟩ := Kd.C_get h ⟨#[]⟩ (i : Int) (by omega) (by omega)
  have hK' : c = [.string (xs.getD i ⟨#[]⟩)] := hK
  subst hK'
  have := hc 0 _ rfl
  rw [Nat.add_zero] at this
  have e1 : ((i : Int).toNat * Kd.string.sz) = i := Nat.mul_one i
  rw [e1] at this
  exact ⟨ad, e, this⟩
set_option maxRecDepth 100000 in
set_option maxHeartbeats 8000000 in
theorem ptext_calls (gs : List S54) (fs : List S41) (A0 A1 : Option Addr) (c0 c1 : Nat) (W : World) (hG : GL W) (hOK : PrOk gs fs) (hC0 : Kd.C k54 W A0 gs.length gs) (hC1 : Kd.C k41 W A1 fs.length fs) :
    Calls Tryd.prog 21 #[.agg #[.slice A0 gs.length c0, .slice A1 fs.length c1]] W fun r w' => r = .returned (.string (bs (progT gs fs))) ∧ Below W.heap.size W w' := by
  have HS := Sat.start W
  have HG := Aside0.mk hG
  have HOK := Aside0.mk hOK
  have HC0 := Aside0.mk hC0
  have HC1 := Aside0.mk hC1
  have HN0 := Aside0.mk (show gs.length ≤ 9223372036854775807 from hC0.2.1)
  have HN1 := Aside0.mk (show fs.length ≤ 9223372036854775807 from hC1.2.1)
  have hgl : (gsT gs).length ≤ BX := by have := hOK.len; unfold progT at this; rw [List.length_append] at this; omega
  have HGL := Aside0.mk hgl
  clear hG hOK hC0 hC1 hgl
  go_enter Tryd.func21, Tryd.ntmps21
  go_upto_region 1 with ((with_reducible refine gate_dst (N := 1) rfl ?_); go_must (refine ev_box HS rfl (N := 1) rfl (cs := #[.slice A0 gs.length c0, .slice A1 fs.length c1]) (t := 45) ?hrun ?_); (case hrun => first | (go_simp; done) | (go_simp; rfl)); clear HS; intro gp w HS)
  go_upto_region 2 with ((with_reducible refine gate_dst (N := 3) rfl ?_); go_must (refine ev_box HS rfl (N := 3) rfl (cs := #[.pointer none, .slice none 0 0]) (t := 73) ?hrun ?_); (case hrun => first | (go_simp; done) | (go_simp; rfl)); clear HS; intro gb w HS)
  replace HS := Sat.builder HS 0 rfl
  change Sat W _ [bld gb [], blk gp 45 #[.slice A0 gs.length c0, .slice A1 fs.length c1], old W] at HS
  have cb := HS.cell 1 rfl
  go_wp2
  go_loopg [11] (gs.length + 1) (fun kq v11 w' => ∃ (i : Nat), v11 = .int .i64 (i : Int) ∧ Aside0 (i ≤ gs.length ∧ gs.length + 1 ≤ kq + i) ∧ Aside0 (Sat W w' [bld gb (gsT (gs.take i)), blk gp 45 #[.slice A0 gs.length c0, .slice A1 fs.length c1], old W]))
  case atStart => exact ⟨0, rfl, ⟨by omega, by omega⟩, ⟨HS⟩⟩
  case round =>
    clear HS cb
    obtain ⟨i, rfl, HI, HS'⟩ := hrel
    have HS := HS'.out
    clear HS'
    cases gk with
    | zero => have := HI.out; omega
    | succ k1 =>
      obtain ⟨R, hR⟩ : ∃ R, R = gsT (gs.take i) := ⟨_, rfl⟩
      rw [← hR] at HS
      by_cases hk : i < gs.length
      · obtain ⟨I, hI_⟩ : ∃ I : Int, (i : Int) = I := ⟨_, rfl⟩
        have pI : 0 ≤ I := by omega
        have q1 : I < (gs.length : Int) := by omega
        have c1_ : decide (I < (gs.length : Int)) = true := decide_eq_true q1
        have hbw := HS.old 2 rfl
        obtain ⟨ad, rfl, x0, x1, x2, x3, x4⟩ := at_T54 HC0.out I pI q1
        replace x0 := cell_below x0 hbw
        replace x1 := cell_below x1 hbw
        replace x2 := cell_below x2 hbw
        replace x3 := cell_below x3 hbw
        replace x4 := cell_below x4 hbw
        clear hbw
        have hq : rd_T54 gs I = gs[i] := by rw [← hI_]; exact rdG hk
        obtain ⟨q, hqq⟩ : ∃ z_, z_ = rd_T54 gs I := ⟨_, rfl⟩
        rw [← hqq] at x0 x1 x2 x3 x4 hq
        have hmem : q ∈ gs := by rw [hq]; exact List.getElem_mem hk
        obtain ⟨nm, hnm⟩ : ∃ nm, q.f0 = bs nm := ⟨q.f0.data.toList, rfl⟩
        rw [hnm] at x0
        have hQ : gsT (gs.take (i + 1)) = R ++ (holdT q.f1 ++ nm ++ (if 0 < q.f2 then [91] ++ Lib.itoa q.f2 ++ [93] else []) ++ [59, 10]) := by rw [gs_take hk, hR, ← hq]; unfold gT; rw [hnm]; rfl
        have hlen := gs_take_le gs (i + 1)
        rw [hQ] at hlen
        have hg2 := (HOK.out.gok q hmem).2
        have hln : R.length + ((holdT q.f1 ++ nm).length + ((if 0 < q.f2 then [91] ++ Lib.itoa q.f2 ++ [93] else []).length + 2)) ≤ BX := by
          have := HGL.out
          simp only [List.length_append, List.length_cons, List.length_nil] at hlen ⊢
          omega
        have HQ := Aside0.mk hQ
        have hwi : wrap64 (I + 1) = I + 1 := w64 _ (by omega) (by have := HN0.out; omega)
        have HII := Aside0.mk (show (i : Int) = I ∧ i < gs.length from ⟨hI_, hk⟩)
        rw [hI_]
        clear hq hqq hmem hnm hQ hlen hI_ hk hR
        have r1 := eq_true pI
        have r2 := eq_true q1
        go_upto_region 5 with (first | ((with_reducible refine gate_dst (N := 5) rfl ?_); go_must (refine ev_box HS rfl (N := 5) rfl (cs := #[.string ⟨#[]⟩, .int .i64 0, .int .i64 0, .int .i64 0, .int .i64 0]) (t := 54) ?hrun ?_); (case hrun => first | (go_simp; done) | (go_simp; rfl)); clear HS; intro gq w HS) | ((with_reducible refine gate_store (t := 54) (p := 5) rfl ?_); go_must (refine ev_store HS 0 rfl rfl 54 (.tmp 5) (.tmp 14) rfl rfl rfl [.string (bs nm), .int .i64 q.f1, .int .i64 q.f2, .int .i64 q.f3.f0, .int .i64 q.f3.f1] ?hx (by kernel_rfl) (by rfl) ?h1 ?_); (case hx => first | rfl | (go_simp; done)); (case h1 => simp [Value.oneCell']); clear HS; intro w HS))
        clear x0 x1 x2 x3 x4 r1 r2 pI q1
        replace HS : Sat W _ [blk gq 54 #[.string (bs nm), .int .i64 q.f1, .int .i64 q.f2, .int .i64 q.f3.f0, .int .i64 q.f3.f1], bld gb R, blk gp 45 _, old W] := HS
        have HLN := Aside0.mk hln
        have HG2 := Aside0.mk hg2
        obtain ⟨HD, hHD⟩ : ∃ h, h = holdT q.f1 := ⟨_, rfl⟩
        rw [← hHD] at HLN HQ
        clear hln hg2
        have cb := HS.cell 0 rfl
        by_cases hh : q.f1 ≤ 0
        · skip
          skip
          have hHV : HD = [118, 97, 114, 32] := by rw [hHD]; unfold holdT; rw [if_pos (by omega)]
          have hmx : max 0 (min 2 q.f1) = 0 := by omega
          clear hHD hh
          subst hHV
          obtain ⟨mn, hmn⟩ : ∃ m, min 2 q.f1 = m := ⟨_, rfl⟩
          rw [hmn] at hmx
          have hwr : R.length + ([118, 97, 114, 32] ++ nm).length ≤ 140737488355328 := by have := HLN.out; have := bx_le; omega
          have hl9 : ([118, 97, 114, 32] : List UInt8).length + nm.length ≤ 9223372036854775807 := by rw [List.length_append] at hwr; omega
          refine start_ (n := 11) (S := fun w' => ∃ L', Sat W w' (blk gq 54 #[.string (bs nm), .int .i64 q.f1, .int .i64 q.f2, .int .i64 q.f3.f0, .int .i64 q.f3.f1] :: L')) (ds := []) #[false, false, false, false, false, false, false, false, false, false, false] (by kernel_rfl) rfl rfl ⟨_, HS.drew⟩ (fun hHeld => ?_)
          replace HS := HS.drew
          generalize World.drew w = w at HS hHeld ⊢
          refine pure_ (i := 1) (N := some 16) (v := ?_) (a' := ?_) #[false, true, false, false, false, false, false, false, false, false, false] rfl rfl (by kernel_rfl) (fun _ _ _ h => h) (Or.inl ⟨by rfl, ?_⟩) ?_ ?_
          rotate_left
          · intro w'
            go_simp
            with_reducible rfl
          rotate_left
          · (try simp only [Act.put, List.setIfInBounds_toArray, List.set_cons_zero, List.set_cons_succ, i64_w, i32_w])
            rfl
          refine take_ (i := 2) (N := some 17) (v := ?_) (a' := ?_) #[false, true, true, false, false, false, false, false, false, false, false] rfl rfl (by kernel_rfl) (fun _ _ _ h => h) (Or.inl ⟨by rfl, ?_⟩) hHeld ?_ ?_
          rotate_left
          · rintro w' hS
            obtain ⟨L', hS⟩ := hS
            have cb := hS.cell 0 rfl
            go_simp
            with_reducible rfl
          rotate_left
          · (try simp only [Act.put, List.setIfInBounds_toArray, List.set_cons_zero, List.set_cons_succ, i64_w, i32_w])
            rfl
          refine pure_ (i := 3) (N := some 18) (v := .int .i64 mn) (a' := ?_) #[false, true, true, true, false, false, false, false, false, false, false] rfl rfl (by kernel_rfl) (fun _ _ _ h => h) (Or.inl ⟨by rfl, ?_⟩) ?_ ?_
          · intro w'
            first | (go_simp; done) | (go_simp; rw [hmn])
          rotate_left
          · (try simp only [Act.put, List.setIfInBounds_toArray, List.set_cons_zero, List.set_cons_succ, i64_w, i32_w])
            rfl
          refine pure_ (i := 4) (N := some 19) (v := .int .i64 0) (a' := ?_) #[false, true, true, true, true, false, false, false, false, false, false] rfl rfl (by kernel_rfl) (fun _ _ _ h => h) (Or.inl ⟨by rfl, ?_⟩) ?_ ?_
          · intro w'
            first | (go_simp; done) | (go_simp; rw [hmx])
          rotate_left
          · (try simp only [Act.put, List.setIfInBounds_toArray, List.set_cons_zero, List.set_cons_succ, i64_w, i32_w])
            rfl
          refine pure_ (i := 7) (N := some 22) (v := ?_) (a' := ?_) #[false, true, true, true, true, false, false, true, false, false, false] rfl rfl (by kernel_rfl) (fun _ _ _ h => h) (Or.inl ⟨by rfl, ?_⟩) ?_ ?_
          rotate_left
          · intro w'
            go_simp
            with_reducible rfl
          rotate_left
          · (try simp only [Act.put, List.setIfInBounds_toArray, List.set_cons_zero, List.set_cons_succ, i64_w, i32_w])
            rfl
          refine take_ (i := 8) (N := some 23) (v := ?_) (a' := ?_) #[false, true, true, true, true, false, false, true, true, false, false] rfl rfl (by kernel_rfl) (fun _ _ _ h => h) (Or.inl ⟨by rfl, ?_⟩) hHeld ?_ ?_
          rotate_left
          · rintro w' hS
            obtain ⟨L', hS⟩ := hS
            have cb := hS.cell 0 rfl
            go_simp
            with_reducible rfl
          rotate_left
          · (try simp only [Act.put, List.setIfInBounds_toArray, List.set_cons_zero, List.set_cons_succ, i64_w, i32_w])
            rfl
          refine one_ (i := 0) (N := some 15) #[true, true, true, true, true, false, false, true, true, false, false] rfl rfl (by kernel_rfl) (by decide) (fun K hK => ?_)
          refine ev_lit_step Kd.string (e := 9) HS (by rfl) (N := 15) rfl (xs := [bs [118, 97, 114, 32], bs [112, 117, 98, 108, 105, 99, 32], bs [115, 101, 99, 114, 101, 116, 32]]) (inner := [.string (bs [118, 97, 114, 32]), .string (bs [112, 117, 98, 108, 105, 99, 32]), .string (bs [115, 101, 99, 114, 101, 116, 32])]) ?hrun (reps_strs [118, 97, 114, 32] [112, 117, 98, 108, 105, 99, 32] [115, 101, 99, 114, 101, 116, 32]) (by simp) ?_
          (case hrun => first | (go_simp; done) | (go_simp; rfl))
          clear HS
          intro gl w HS
          refine hK.out _ _ ⟨_, HS.front 1 rfl⟩ (fun hHeld => ?_)
          clear hK K
          refine norm_ (a' := ?_) ?_ ?_
          rotate_left
          · show Act.put _ _ _ = _
            (try simp only [Act.put, List.setIfInBounds_toArray, List.set_cons_zero, List.set_cons_succ, i64_w, i32_w])
            rfl
          refine pure_ (i := 5) (N := some 20) (v := ?_) (a' := ?_) #[true, true, true, true, true, true, false, true, true, false, false] rfl rfl (by kernel_rfl) (fun _ _ _ h => h) (Or.inl ⟨by rfl, ?_⟩) ?_ ?_
          rotate_left
          · intro w'
            go_simp
            with_reducible rfl
          rotate_left
          · (try simp only [Act.put, List.setIfInBounds_toArray, List.set_cons_zero, List.set_cons_succ, i64_w, i32_w])
            rfl
          refine one_ (i := 6) (N := some 21) #[true, true, true, true, true, true, true, true, true, false, false] rfl rfl (by kernel_rfl) (by decide) (fun K hK => ?_)
          obtain ⟨adl, el_, xl⟩ := str_at (HS.C 0 rfl) 0 (by decide)
          cases el_
          have xl' : w.cell? ⟨gl, 0, none⟩ = some (.string (bs [118, 97, 114, 32])) := xl
          refine value_ (N := some 21) (v := .string (bs [118, 97, 114, 32])) (w1 := w) (by rfl) rfl (by first | (go_simp; done) | (go_simp; rfl)) ?_
          refine hK.out _ _ ⟨_, HS.front 1 rfl⟩ (fun hHeld => ?_)
          clear hK K
          refine norm_ (a' := ?_) ?_ ?_
          rotate_left
          · show Act.put _ _ _ = _
            (try simp only [Act.put, List.setIfInBounds_toArray, List.set_cons_zero, List.set_cons_succ, i64_w, i32_w])
            rfl
          refine pure_ (i := 9) (N := some 24) (v := .string (bs (([118, 97, 114, 32]) ++ (nm)))) (a' := ?_) #[true, true, true, true, true, true, true, true, true, true, false] rfl rfl (by kernel_rfl) (fun _ _ _ h => h) (Or.inl ⟨by rfl, ?_⟩) ?_ ?_
          · intro w'
            exact run_cat (t := 9) (t' := 9) (p := [118, 97, 114, 32]) (q := nm) Tryd.underlying9 rfl rfl rfl (by (try simp only [List.length_append, List.length_cons, List.length_nil]); have := mx_le; have := bx_le; omega) w'
          rotate_left
          · (try simp only [Act.put, List.setIfInBounds_toArray, List.set_cons_zero, List.set_cons_succ, i64_w, i32_w])
            rfl
          refine one_ (i := 10) (N := some 25) #[true, true, true, true, true, true, true, true, true, true, true] rfl rfl (by kernel_rfl) (by decide) (fun K hK => ?_)
          refine goes_ Tryd.func37 (by kernel_rfl) rfl #[.pointer (some ⟨gb, 0, none⟩), .string (bs ([118, 97, 114, 32] ++ nm))] (by rfl) rfl rfl (by (try simp only [List.map_toArray, List.map_cons, List.map_nil]); first | done | rfl) ?_
          refine (write_calls 2 rfl ([118, 97, 114, 32] ++ nm) hwr HS).mono ?_
          rintro e w_ ⟨rfl, HS_⟩
          refine ⟨_, rfl, ?_⟩
          clear HS
          have HS := HS_
          clear HS_
          refine hK.out _ _ ⟨_, HS.front 1 rfl⟩ (fun hHeld => ?_)
          clear hK K
          refine norm_ (a' := ?_) ?_ ?_
          rotate_left
          · show Act.put _ _ _ = _
            (try simp only [Act.put, List.setIfInBounds_toArray, List.set_cons_zero, List.set_cons_succ, i64_w, i32_w])
            rfl
          refine done_ (by kernel_rfl) ?_
          clear hHeld
          clear hwr hl9 hmn hmx
          replace HS := HS.tail
          change Sat W _ [blk gq 54 #[.string (bs nm), .int .i64 q.f1, .int .i64 q.f2, .int .i64 q.f3.f0, .int .i64 q.f3.f1], bld gb (R ++ ([118, 97, 114, 32] ++ nm)), blk gp 45 _, old W] at HS
          have cb := HS.cell 0 rfl
          by_cases hz : 0 < q.f2
          · have z1 : decide (0 < q.f2) = true := decide_eq_true hz
            have HIT := Aside0.mk (itoa_at q.f2 HG2.out.1 HG2.out.2)
            have hl0 := HLN.out
            rw [if_pos hz] at hl0
            rw [if_pos hz] at HQ
            clear HLN hz
            obtain ⟨IT, hIT⟩ : ∃ t, t = Lib.itoa q.f2 := ⟨_, rfl⟩
            rw [← hIT] at HIT hl0 HQ
            clear hIT
            have hw1 : (R ++ ([118, 97, 114, 32] ++ nm)).length + ([91] ++ IT ++ [93]).length ≤ 140737488355328 := by have := bx_le; simp only [List.length_append, List.length_cons, List.length_nil] at hl0 ⊢; omega
            have hw2 : (R ++ ([118, 97, 114, 32] ++ nm) ++ ([91] ++ IT ++ [93])).length + ([59, 10] : List UInt8).length ≤ 140737488355328 := by have := bx_le; simp only [List.length_append, List.length_cons, List.length_nil] at hl0 ⊢; omega
            have hl1 : ([91] : List UInt8).length + IT.length ≤ 9223372036854775807 := by have := bx_le; simp only [List.length_append, List.length_cons, List.length_nil] at hl0 ⊢; omega
            have hl2 : ([91] ++ IT).length + ([93] : List UInt8).length ≤ 9223372036854775807 := by have := bx_le; simp only [List.length_append, List.length_cons, List.length_nil] at hl0 ⊢; omega
            clear hl0
            go_upto_region 7 with (fail)
            go_upto_region 8 with (first | (go_at_call 19; refine (HIT.out _ (HG.out.below (HS.old 3 rfl)).pow).mono ?_; rintro e w_ ⟨rfl, hb⟩; replace HS := HS.below hb; clear hb) | ((with_reducible refine gate_bin (b := .add) (t := 9) (t' := 9) rfl ?_); go_must (refine ev_cat Tryd.underlying9 rfl rfl rfl rfl rfl (by first | exact hl1 | exact hl2) ?_)) | (go_at_call 37; refine (write_calls 1 rfl ([91] ++ IT ++ [93]) hw1 HS).mono ?_; rintro e w_ ⟨rfl, HS_⟩; clear HS; have HS := HS_; clear HS_))
            go_wp2_with (go_at_call 37; refine (write_calls 1 rfl [59, 10] hw2 HS).mono ?_; rintro e w_ ⟨rfl, HS_⟩; clear HS; have HS := HS_; clear HS_)
            go_roundg k1
            case measure => exact Nat.lt_succ_self _
            case rel =>
              have h1 := HII.out
              have h2 := HI.out
              refine ⟨i + 1, by rw [hwi, ← h1.1]; rfl, ⟨by omega, by omega⟩, ⟨?_⟩⟩
              rw [HQ.out]
              have e1 : R ++ ([118, 97, 114, 32] ++ nm ++ ([91] ++ IT ++ [93]) ++ [59, 10]) = R ++ ([118, 97, 114, 32] ++ nm) ++ ([91] ++ IT ++ [93]) ++ [59, 10] := by simp
              rw [e1]
              exact HS.tail
          · have z1 : decide (0 < q.f2) = false := decide_eq_false hz
            have hl0 := HLN.out
            rw [if_neg hz] at hl0
            rw [if_neg hz] at HQ
            clear HLN hz
            have hw2 : (R ++ ([118, 97, 114, 32] ++ nm)).length + ([59, 10] : List UInt8).length ≤ 140737488355328 := by have := bx_le; simp only [List.length_append, List.length_cons, List.length_nil] at hl0 ⊢; omega
            clear hl0
            go_wp2_with (go_at_call 37; refine (write_calls 1 rfl [59, 10] hw2 HS).mono ?_; rintro e w_ ⟨rfl, HS_⟩; clear HS; have HS := HS_; clear HS_)
            go_roundg k1
            case measure => exact Nat.lt_succ_self _
            case rel =>
              have h1 := HII.out
              have h2 := HI.out
              refine ⟨i + 1, by rw [hwi, ← h1.1]; rfl, ⟨by omega, by omega⟩, ⟨?_⟩⟩
              rw [HQ.out]
              have e1 : R ++ ([118, 97, 114, 32] ++ nm ++ [] ++ [59, 10]) = R ++ ([118, 97, 114, 32] ++ nm) ++ [59, 10] := by simp
              rw [e1]
              exact HS.tail
        · by_cases hh1 : q.f1 = 1
          · skip
            skip
            have hHV : HD = [112, 117, 98, 108, 105, 99, 32] := by rw [hHD]; unfold holdT; rw [if_neg (by omega), if_pos (by omega)]
            have hmx : max 0 (min 2 q.f1) = 1 := by omega
            clear hHD hh hh1
            subst hHV
            obtain ⟨mn, hmn⟩ : ∃ m, min 2 q.f1 = m := ⟨_, rfl⟩
            rw [hmn] at hmx
            have hwr : R.length + ([112, 117, 98, 108, 105, 99, 32] ++ nm).length ≤ 140737488355328 := by have := HLN.out; have := bx_le; omega
            have hl9 : ([112, 117, 98, 108, 105, 99, 32] : List UInt8).length + nm.length ≤ 9223372036854775807 := by rw [List.length_append] at hwr; omega
            refine start_ (n := 11) (S := fun w' => ∃ L', Sat W w' (blk gq 54 #[.string (bs nm), .int .i64 q.f1, .int .i64 q.f2, .int .i64 q.f3.f0, .int .i64 q.f3.f1] :: L')) (ds := []) #[false, false, false, false, false, false, false, false, false, false, false] (by kernel_rfl) rfl rfl ⟨_, HS.drew⟩ (fun hHeld => ?_)
            replace HS := HS.drew
            generalize World.drew w = w at HS hHeld ⊢
            refine pure_ (i := 1) (N := some 16) (v := ?_) (a' := ?_) #[false, true, false, false, false, false, false, false, false, false, false] rfl rfl (by kernel_rfl) (fun _ _ _ h => h) (Or.inl ⟨by rfl, ?_⟩) ?_ ?_
            rotate_left
            · intro w'
              go_simp
              with_reducible rfl
            rotate_left
            · (try simp only [Act.put, List.setIfInBounds_toArray, List.set_cons_zero, List.set_cons_succ, i64_w, i32_w])
              rfl
            refine take_ (i := 2) (N := some 17) (v := ?_) (a' := ?_) #[false, true, true, false, false, false, false, false, false, false, false] rfl rfl (by kernel_rfl) (fun _ _ _ h => h) (Or.inl ⟨by rfl, ?_⟩) hHeld ?_ ?_
            rotate_left
            · rintro w' hS
              obtain ⟨L', hS⟩ := hS
              have cb := hS.cell 0 rfl
              go_simp
              with_reducible rfl
            rotate_left
            · (try simp only [Act.put, List.setIfInBounds_toArray, List.set_cons_zero, List.set_cons_succ, i64_w, i32_w])
              rfl
            refine pure_ (i := 3) (N := some 18) (v := .int .i64 mn) (a' := ?_) #[false, true, true, true, false, false, false, false, false, false, false] rfl rfl (by kernel_rfl) (fun _ _ _ h => h) (Or.inl ⟨by rfl, ?_⟩) ?_ ?_
            · intro w'
              first | (go_simp; done) | (go_simp; rw [hmn])
            rotate_left
            · (try simp only [Act.put, List.setIfInBounds_toArray, List.set_cons_zero, List.set_cons_succ, i64_w, i32_w])
              rfl
            refine pure_ (i := 4) (N := some 19) (v := .int .i64 1) (a' := ?_) #[false, true, true, true, true, false, false, false, false, false, false] rfl rfl (by kernel_rfl) (fun _ _ _ h => h) (Or.inl ⟨by rfl, ?_⟩) ?_ ?_
            · intro w'
              first | (go_simp; done) | (go_simp; rw [hmx])
            rotate_left
            · (try simp only [Act.put, List.setIfInBounds_toArray, List.set_cons_zero, List.set_cons_succ, i64_w, i32_w])
              rfl
            refine pure_ (i := 7) (N := some 22) (v := ?_) (a' := ?_) #[false, true, true, true, true, false, false, true, false, false, false] rfl rfl (by kernel_rfl) (fun _ _ _ h => h) (Or.inl ⟨by rfl, ?_⟩) ?_ ?_
            rotate_left
            · intro w'
              go_simp
              with_reducible rfl
            rotate_left
            · (try simp only [Act.put, List.setIfInBounds_toArray, List.set_cons_zero, List.set_cons_succ, i64_w, i32_w])
              rfl
            refine take_ (i := 8) (N := some 23) (v := ?_) (a' := ?_) #[false, true, true, true, true, false, false, true, true, false, false] rfl rfl (by kernel_rfl) (fun _ _ _ h => h) (Or.inl ⟨by rfl, ?_⟩) hHeld ?_ ?_
            rotate_left
            · rintro w' hS
              obtain ⟨L', hS⟩ := hS
              have cb := hS.cell 0 rfl
              go_simp
              with_reducible rfl
            rotate_left
            · (try simp only [Act.put, List.setIfInBounds_toArray, List.set_cons_zero, List.set_cons_succ, i64_w, i32_w])
              rfl
            refine one_ (i := 0) (N := some 15) #[true, true, true, true, true, false, false, true, true, false, false] rfl rfl (by kernel_rfl) (by decide) (fun K hK => ?_)
            refine ev_lit_step Kd.string (e := 9) HS (by rfl) (N := 15) rfl (xs := [bs [118, 97, 114, 32], bs [112, 117, 98, 108, 105, 99, 32], bs [115, 101, 99, 114, 101, 116, 32]]) (inner := [.string (bs [118, 97, 114, 32]), .string (bs [112, 117, 98, 108, 105, 99, 32]), .string (bs [115, 101, 99, 114, 101, 116, 32])]) ?hrun (reps_strs [118, 97, 114, 32] [112, 117, 98, 108, 105, 99, 32] [115, 101, 99, 114, 101, 116, 32]) (by simp) ?_
            (case hrun => first | (go_simp; done) | (go_simp; rfl))
            clear HS
            intro gl w HS
            refine hK.out _ _ ⟨_, HS.front 1 rfl⟩ (fun hHeld => ?_)
            clear hK K
            refine norm_ (a' := ?_) ?_ ?_
            rotate_left
            · show Act.put _ _ _ = _
              (try simp only [Act.put, List.setIfInBounds_toArray, List.set_cons_zero, List.set_cons_succ, i64_w, i32_w])
              rfl
            refine pure_ (i := 5) (N := some 20) (v := ?_) (a' := ?_) #[true, true, true, true, true, true, false, true, true, false, false] rfl rfl (by kernel_rfl) (fun _ _ _ h => h) (Or.inl ⟨by rfl, ?_⟩) ?_ ?_
            rotate_left
            · intro w'
              go_simp
              with_reducible rfl
            rotate_left
            · (try simp only [Act.put, List.setIfInBounds_toArray, List.set_cons_zero, List.set_cons_succ, i64_w, i32_w])
              rfl
            refine one_ (i := 6) (N := some 21) #[true, true, true, true, true, true, true, true, true, false, false] rfl rfl (by kernel_rfl) (by decide) (fun K hK => ?_)
            obtain ⟨adl, el_, xl⟩ := str_at (HS.C 0 rfl) 1 (by decide)
            cases el_
            have xl' : w.cell? ⟨gl, 1, none⟩ = some (.string (bs [112, 117, 98, 108, 105, 99, 32])) := xl
            refine value_ (N := some 21) (v := .string (bs [112, 117, 98, 108, 105, 99, 32])) (w1 := w) (by rfl) rfl (by first | (go_simp; done) | (go_simp; rfl)) ?_
            refine hK.out _ _ ⟨_, HS.front 1 rfl⟩ (fun hHeld => ?_)
            clear hK K
            refine norm_ (a' := ?_) ?_ ?_
            rotate_left
            · show Act.put _ _ _ = _
              (try simp only [Act.put, List.setIfInBounds_toArray, List.set_cons_zero, List.set_cons_succ, i64_w, i32_w])
              rfl
            refine pure_ (i := 9) (N := some 24) (v := .string (bs (([112, 117, 98, 108, 105, 99, 32]) ++ (nm)))) (a' := ?_) #[true, true, true, true, true, true, true, true, true, true, false] rfl rfl (by kernel_rfl) (fun _ _ _ h => h) (Or.inl ⟨by rfl, ?_⟩) ?_ ?_
            · intro w'
              exact run_cat (t := 9) (t' := 9) (p := [112, 117, 98, 108, 105, 99, 32]) (q := nm) Tryd.underlying9 rfl rfl rfl (by (try simp only [List.length_append, List.length_cons, List.length_nil]); have := mx_le; have := bx_le; omega) w'
            rotate_left
            · (try simp only [Act.put, List.setIfInBounds_toArray, List.set_cons_zero, List.set_cons_succ, i64_w, i32_w])
              rfl
            refine one_ (i := 10) (N := some 25) #[true, true, true, true, true, true, true, true, true, true, true] rfl rfl (by kernel_rfl) (by decide) (fun K hK => ?_)
            refine goes_ Tryd.func37 (by kernel_rfl) rfl #[.pointer (some ⟨gb, 0, none⟩), .string (bs ([112, 117, 98, 108, 105, 99, 32] ++ nm))] (by rfl) rfl rfl (by (try simp only [List.map_toArray, List.map_cons, List.map_nil]); first | done | rfl) ?_
            refine (write_calls 2 rfl ([112, 117, 98, 108, 105, 99, 32] ++ nm) hwr HS).mono ?_
            rintro e w_ ⟨rfl, HS_⟩
            refine ⟨_, rfl, ?_⟩
            clear HS
            have HS := HS_
            clear HS_
            refine hK.out _ _ ⟨_, HS.front 1 rfl⟩ (fun hHeld => ?_)
            clear hK K
            refine norm_ (a' := ?_) ?_ ?_
            rotate_left
            · show Act.put _ _ _ = _
              (try simp only [Act.put, List.setIfInBounds_toArray, List.set_cons_zero, List.set_cons_succ, i64_w, i32_w])
              rfl
            refine done_ (by kernel_rfl) ?_
            clear hHeld
            clear hwr hl9 hmn hmx
            replace HS := HS.tail
            change Sat W _ [blk gq 54 #[.string (bs nm), .int .i64 q.f1, .int .i64 q.f2, .int .i64 q.f3.f0, .int .i64 q.f3.f1], bld gb (R ++ ([112, 117, 98, 108, 105, 99, 32] ++ nm)), blk gp 45 _, old W] at HS
            have cb := HS.cell 0 rfl
            by_cases hz : 0 < q.f2
            · have z1 : decide (0 < q.f2) = true := decide_eq_true hz
              have HIT := Aside0.mk (itoa_at q.f2 HG2.out.1 HG2.out.2)
              have hl0 := HLN.out
              rw [if_pos hz] at hl0
              rw [if_pos hz] at HQ
              clear HLN hz
              obtain ⟨IT, hIT⟩ : ∃ t, t = Lib.itoa q.f2 := ⟨_, rfl⟩
              rw [← hIT] at HIT hl0 HQ
              clear hIT
              have hw1 : (R ++ ([112, 117, 98, 108, 105, 99, 32] ++ nm)).length + ([91] ++ IT ++ [93]).length ≤ 140737488355328 := by have := bx_le; simp only [List.length_append, List.length_cons, List.length_nil] at hl0 ⊢; omega
              have hw2 : (R ++ ([112, 117, 98, 108, 105, 99, 32] ++ nm) ++ ([91] ++ IT ++ [93])).length + ([59, 10] : List UInt8).length ≤ 140737488355328 := by have := bx_le; simp only [List.length_append, List.length_cons, List.length_nil] at hl0 ⊢; omega
              have hl1 : ([91] : List UInt8).length + IT.length ≤ 9223372036854775807 := by have := bx_le; simp only [List.length_append, List.length_cons, List.length_nil] at hl0 ⊢; omega
              have hl2 : ([91] ++ IT).length + ([93] : List UInt8).length ≤ 9223372036854775807 := by have := bx_le; simp only [List.length_append, List.length_cons, List.length_nil] at hl0 ⊢; omega
              clear hl0
              go_upto_region 7 with (fail)
              go_upto_region 8 with (first | (go_at_call 19; refine (HIT.out _ (HG.out.below (HS.old 3 rfl)).pow).mono ?_; rintro e w_ ⟨rfl, hb⟩; replace HS := HS.below hb; clear hb) | ((with_reducible refine gate_bin (b := .add) (t := 9) (t' := 9) rfl ?_); go_must (refine ev_cat Tryd.underlying9 rfl rfl rfl rfl rfl (by first | exact hl1 | exact hl2) ?_)) | (go_at_call 37; refine (write_calls 1 rfl ([91] ++ IT ++ [93]) hw1 HS).mono ?_; rintro e w_ ⟨rfl, HS_⟩; clear HS; have HS := HS_; clear HS_))
              go_wp2_with (go_at_call 37; refine (write_calls 1 rfl [59, 10] hw2 HS).mono ?_; rintro e w_ ⟨rfl, HS_⟩; clear HS; have HS := HS_; clear HS_)
              go_roundg k1
              case measure => exact Nat.lt_succ_self _
              case rel =>
                have h1 := HII.out
                have h2 := HI.out
                refine ⟨i + 1, by rw [hwi, ← h1.1]; rfl, ⟨by omega, by omega⟩, ⟨?_⟩⟩
                rw [HQ.out]
                have e1 : R ++ ([112, 117, 98, 108, 105, 99, 32] ++ nm ++ ([91] ++ IT ++ [93]) ++ [59, 10]) = R ++ ([112, 117, 98, 108, 105, 99, 32] ++ nm) ++ ([91] ++ IT ++ [93]) ++ [59, 10] := by simp
                rw [e1]
                exact HS.tail
            · have z1 : decide (0 < q.f2) = false := decide_eq_false hz
              have hl0 := HLN.out
              rw [if_neg hz] at hl0
              rw [if_neg hz] at HQ
              clear HLN hz
              have hw2 : (R ++ ([112, 117, 98, 108, 105, 99, 32] ++ nm)).length + ([59, 10] : List UInt8).length ≤ 140737488355328 := by have := bx_le; simp only [List.length_append, List.length_cons, List.length_nil] at hl0 ⊢; omega
              clear hl0
              go_wp2_with (go_at_call 37; refine (write_calls 1 rfl [59, 10] hw2 HS).mono ?_; rintro e w_ ⟨rfl, HS_⟩; clear HS; have HS := HS_; clear HS_)
              go_roundg k1
              case measure => exact Nat.lt_succ_self _
              case rel =>
                have h1 := HII.out
                have h2 := HI.out
                refine ⟨i + 1, by rw [hwi, ← h1.1]; rfl, ⟨by omega, by omega⟩, ⟨?_⟩⟩
                rw [HQ.out]
                have e1 : R ++ ([112, 117, 98, 108, 105, 99, 32] ++ nm ++ [] ++ [59, 10]) = R ++ ([112, 117, 98, 108, 105, 99, 32] ++ nm) ++ [59, 10] := by simp
                rw [e1]
                exact HS.tail
          · skip
            skip
            have hHV : HD = [115, 101, 99, 114, 101, 116, 32] := by rw [hHD]; unfold holdT; rw [if_neg (by omega), if_neg (by omega)]
            have hmx : max 0 (min 2 q.f1) = 2 := by omega
            clear hHD hh hh1
            subst hHV
            obtain ⟨mn, hmn⟩ : ∃ m, min 2 q.f1 = m := ⟨_, rfl⟩
            rw [hmn] at hmx
            have hwr : R.length + ([115, 101, 99, 114, 101, 116, 32] ++ nm).length ≤ 140737488355328 := by have := HLN.out; have := bx_le; omega
            have hl9 : ([115, 101, 99, 114, 101, 116, 32] : List UInt8).length + nm.length ≤ 9223372036854775807 := by rw [List.length_append] at hwr; omega
            refine start_ (n := 11) (S := fun w' => ∃ L', Sat W w' (blk gq 54 #[.string (bs nm), .int .i64 q.f1, .int .i64 q.f2, .int .i64 q.f3.f0, .int .i64 q.f3.f1] :: L')) (ds := []) #[false, false, false, false, false, false, false, false, false, false, false] (by kernel_rfl) rfl rfl ⟨_, HS.drew⟩ (fun hHeld => ?_)
            replace HS := HS.drew
            generalize World.drew w = w at HS hHeld ⊢
            refine pure_ (i := 1) (N := some 16) (v := ?_) (a' := ?_) #[false, true, false, false, false, false, false, false, false, false, false] rfl rfl (by kernel_rfl) (fun _ _ _ h => h) (Or.inl ⟨by rfl, ?_⟩) ?_ ?_
            rotate_left
            · intro w'
              go_simp
              with_reducible rfl
            rotate_left
            · (try simp only [Act.put, List.setIfInBounds_toArray, List.set_cons_zero, List.set_cons_succ, i64_w, i32_w])
              rfl
            refine take_ (i := 2) (N := some 17) (v := ?_) (a' := ?_) #[false, true, true, false, false, false, false, false, false, false, false] rfl rfl (by kernel_rfl) (fun _ _ _ h => h) (Or.inl ⟨by rfl, ?_⟩) hHeld ?_ ?_
            rotate_left
            · rintro w' hS
              obtain ⟨L', hS⟩ := hS
              have cb := hS.cell 0 rfl
              go_simp
              with_reducible rfl
            rotate_left
            · (try simp only [Act.put, List.setIfInBounds_toArray, List.set_cons_zero, List.set_cons_succ, i64_w, i32_w])
              rfl
            refine pure_ (i := 3) (N := some 18) (v := .int .i64 mn) (a' := ?_) #[false, true, true, true, false, false, false, false, false, false, false] rfl rfl (by kernel_rfl) (fun _ _ _ h => h) (Or.inl ⟨by rfl, ?_⟩) ?_ ?_
            · intro w'
              first | (go_simp; done) | (go_simp; rw [hmn])
            rotate_left
            · (try simp only [Act.put, List.setIfInBounds_toArray, List.set_cons_zero, List.set_cons_succ, i64_w, i32_w])
              rfl
            refine pure_ (i := 4) (N := some 19) (v := .int .i64 2) (a' := ?_) #[false, true, true, true, true, false, false, false, false, false, false] rfl rfl (by kernel_rfl) (fun _ _ _ h => h) (Or.inl ⟨by rfl, ?_⟩) ?_ ?_
            · intro w'
              first | (go_simp; done) | (go_simp; rw [hmx])
            rotate_left
            · (try simp only [Act.put, List.setIfInBounds_toArray, List.set_cons_zero, List.set_cons_succ, i64_w, i32_w])
              rfl
            refine pure_ (i := 7) (N := some 22) (v := ?_) (a' := ?_) #[false, true, true, true, true, false, false, true, false, false, false] rfl rfl (by kernel_rfl) (fun _ _ _ h => h) (Or.inl ⟨by rfl, ?_⟩) ?_ ?_
            rotate_left
            · intro w'
              go_simp
              with_reducible rfl
            rotate_left
            · (try simp only [Act.put, List.setIfInBounds_toArray, List.set_cons_zero, List.set_cons_succ, i64_w, i32_w])
              rfl
            refine take_ (i := 8) (N := some 23) (v := ?_) (a' := ?_) #[false, true, true, true, true, false, false, true, true, false, false] rfl rfl (by kernel_rfl) (fun _ _ _ h => h) (Or.inl ⟨by rfl, ?_⟩) hHeld ?_ ?_
            rotate_left
            · rintro w' hS
              obtain ⟨L', hS⟩ := hS
              have cb := hS.cell 0 rfl
              go_simp
              with_reducible rfl
            rotate_left
            · (try simp only [Act.put, List.setIfInBounds_toArray, List.set_cons_zero, List.set_cons_succ, i64_w, i32_w])
              rfl
            refine one_ (i := 0) (N := some 15) #[true, true, true, true, true, false, false, true, true, false, false] rfl rfl (by kernel_rfl) (by decide) (fun K hK => ?_)
            refine ev_lit_step Kd.string (e := 9) HS (by rfl) (N := 15) rfl (xs := [bs [118, 97, 114, 32], bs [112, 117, 98, 108, 105, 99, 32], bs [115, 101, 99, 114, 101, 116, 32]]) (inner := [.string (bs [118, 97, 114, 32]), .string (bs [112, 117, 98, 108, 105, 99, 32]), .string (bs [115, 101, 99, 114, 101, 116, 32])]) ?hrun (reps_strs [118, 97, 114, 32] [112, 117, 98, 108, 105, 99, 32] [115, 101, 99, 114, 101, 116, 32]) (by simp) ?_
            (case hrun => first | (go_simp; done) | (go_simp; rfl))
            clear HS
            intro gl w HS
            refine hK.out _ _ ⟨_, HS.front 1 rfl⟩ (fun hHeld => ?_)
            clear hK K
            refine norm_ (a' := ?_) ?_ ?_
            rotate_left
            · show Act.put _ _ _ = _
              (try simp only [Act.put, List.setIfInBounds_toArray, List.set_cons_zero, List.set_cons_succ, i64_w, i32_w])
              rfl
            refine pure_ (i := 5) (N := some 20) (v := ?_) (a' := ?_) #[true, true, true, true, true, true, false, true, true, false, false] rfl rfl (by kernel_rfl) (fun _ _ _ h => h) (Or.inl ⟨by rfl, ?_⟩) ?_ ?_
            rotate_left
            · intro w'
              go_simp
              with_reducible rfl
            rotate_left
            · (try simp only [Act.put, List.setIfInBounds_toArray, List.set_cons_zero, List.set_cons_succ, i64_w, i32_w])
              rfl
            refine one_ (i := 6) (N := some 21) #[true, true, true, true, true, true, true, true, true, false, false] rfl rfl (by kernel_rfl) (by decide) (fun K hK => ?_)
            obtain ⟨adl, el_, xl⟩ := str_at (HS.C 0 rfl) 2 (by decide)
            cases el_
            have xl' : w.cell? ⟨gl, 2, none⟩ = some (.string (bs [115, 101, 99, 114, 101, 116, 32])) := xl
            refine value_ (N := some 21) (v := .string (bs [115, 101, 99, 114, 101, 116, 32])) (w1 := w) (by rfl) rfl (by first | (go_simp; done) | (go_simp; rfl)) ?_
            refine hK.out _ _ ⟨_, HS.front 1 rfl⟩ (fun hHeld => ?_)
            clear hK K
            refine norm_ (a' := ?_) ?_ ?_
            rotate_left
            · show Act.put _ _ _ = _
              (try simp only [Act.put, List.setIfInBounds_toArray, List.set_cons_zero, List.set_cons_succ, i64_w, i32_w])
              rfl
            refine pure_ (i := 9) (N := some 24) (v := .string (bs (([115, 101, 99, 114, 101, 116, 32]) ++ (nm)))) (a' := ?_) #[true, true, true, true, true, true, true, true, true, true, false] rfl rfl (by kernel_rfl) (fun _ _ _ h => h) (Or.inl ⟨by rfl, ?_⟩) ?_ ?_
            · intro w'
              exact run_cat (t := 9) (t' := 9) (p := [115, 101, 99, 114, 101, 116, 32]) (q := nm) Tryd.underlying9 rfl rfl rfl (by (try simp only [List.length_append, List.length_cons, List.length_nil]); have := mx_le; have := bx_le; omega) w'
            rotate_left
            · (try simp only [Act.put, List.setIfInBounds_toArray, List.set_cons_zero, List.set_cons_succ, i64_w, i32_w])
              rfl
            refine one_ (i := 10) (N := some 25) #[true, true, true, true, true, true, true, true, true, true, true] rfl rfl (by kernel_rfl) (by decide) (fun K hK => ?_)
            refine goes_ Tryd.func37 (by kernel_rfl) rfl #[.pointer (some ⟨gb, 0, none⟩), .string (bs ([115, 101, 99, 114, 101, 116, 32] ++ nm))] (by rfl) rfl rfl (by (try simp only [List.map_toArray, List.map_cons, List.map_nil]); first | done | rfl) ?_
            refine (write_calls 2 rfl ([115, 101, 99, 114, 101, 116, 32] ++ nm) hwr HS).mono ?_
            rintro e w_ ⟨rfl, HS_⟩
            refine ⟨_, rfl, ?_⟩
            clear HS
            have HS := HS_
            clear HS_
            refine hK.out _ _ ⟨_, HS.front 1 rfl⟩ (fun hHeld => ?_)
            clear hK K
            refine norm_ (a' := ?_) ?_ ?_
            rotate_left
            · show Act.put _ _ _ = _
              (try simp only [Act.put, List.setIfInBounds_toArray, List.set_cons_zero, List.set_cons_succ, i64_w, i32_w])
              rfl
            refine done_ (by kernel_rfl) ?_
            clear hHeld
            clear hwr hl9 hmn hmx
            replace HS := HS.tail
            change Sat W _ [blk gq 54 #[.string (bs nm), .int .i64 q.f1, .int .i64 q.f2, .int .i64 q.f3.f0, .int .i64 q.f3.f1], bld gb (R ++ ([115, 101, 99, 114, 101, 116, 32] ++ nm)), blk gp 45 _, old W] at HS
            have cb := HS.cell 0 rfl
            by_cases hz : 0 < q.f2
            · have z1 : decide (0 < q.f2) = true := decide_eq_true hz
              have HIT := Aside0.mk (itoa_at q.f2 HG2.out.1 HG2.out.2)
              have hl0 := HLN.out
              rw [if_pos hz] at hl0
              rw [if_pos hz] at HQ
              clear HLN hz
              obtain ⟨IT, hIT⟩ : ∃ t, t = Lib.itoa q.f2 := ⟨_, rfl⟩
              rw [← hIT] at HIT hl0 HQ
              clear hIT
              have hw1 : (R ++ ([115, 101, 99, 114, 101, 116, 32] ++ nm)).length + ([91] ++ IT ++ [93]).length ≤ 140737488355328 := by have := bx_le; simp only [List.length_append, List.length_cons, List.length_nil] at hl0 ⊢; omega
              have hw2 : (R ++ ([115, 101, 99, 114, 101, 116, 32] ++ nm) ++ ([91] ++ IT ++ [93])).length + ([59, 10] : List UInt8).length ≤ 140737488355328 := by have := bx_le; simp only [List.length_append, List.length_cons, List.length_nil] at hl0 ⊢; omega
              have hl1 : ([91] : List UInt8).length + IT.length ≤ 9223372036854775807 := by have := bx_le; simp only [List.length_append, List.length_cons, List.length_nil] at hl0 ⊢; omega
              have hl2 : ([91] ++ IT).length + ([93] : List UInt8).length ≤ 9223372036854775807 := by have := bx_le; simp only [List.length_append, List.length_cons, List.length_nil] at hl0 ⊢; omega
              clear hl0
              go_upto_region 7 with (fail)
              go_upto_region 8 with (first | (go_at_call 19; refine (HIT.out _ (HG.out.below (HS.old 3 rfl)).pow).mono ?_; rintro e w_ ⟨rfl, hb⟩; replace HS := HS.below hb; clear hb) | ((with_reducible refine gate_bin (b := .add) (t := 9) (t' := 9) rfl ?_); go_must (refine ev_cat Tryd.underlying9 rfl rfl rfl rfl rfl (by first | exact hl1 | exact hl2) ?_)) | (go_at_call 37; refine (write_calls 1 rfl ([91] ++ IT ++ [93]) hw1 HS).mono ?_; rintro e w_ ⟨rfl, HS_⟩; clear HS; have HS := HS_; clear HS_))
              go_wp2_with (go_at_call 37; refine (write_calls 1 rfl [59, 10] hw2 HS).mono ?_; rintro e w_ ⟨rfl, HS_⟩; clear HS; have HS := HS_; clear HS_)
              go_roundg k1
              case measure => exact Nat.lt_succ_self _
              case rel =>
                have h1 := HII.out
                have h2 := HI.out
                refine ⟨i + 1, by rw [hwi, ← h1.1]; rfl, ⟨by omega, by omega⟩, ⟨?_⟩⟩
                rw [HQ.out]
                have e1 : R ++ ([115, 101, 99, 114, 101, 116, 32] ++ nm ++ ([91] ++ IT ++ [93]) ++ [59, 10]) = R ++ ([115, 101, 99, 114, 101, 116, 32] ++ nm) ++ ([91] ++ IT ++ [93]) ++ [59, 10] := by simp
                rw [e1]
                exact HS.tail
            · have z1 : decide (0 < q.f2) = false := decide_eq_false hz
              have hl0 := HLN.out
              rw [if_neg hz] at hl0
              rw [if_neg hz] at HQ
              clear HLN hz
              have hw2 : (R ++ ([115, 101, 99, 114, 101, 116, 32] ++ nm)).length + ([59, 10] : List UInt8).length ≤ 140737488355328 := by have := bx_le; simp only [List.length_append, List.length_cons, List.length_nil] at hl0 ⊢; omega
              clear hl0
              go_wp2_with (go_at_call 37; refine (write_calls 1 rfl [59, 10] hw2 HS).mono ?_; rintro e w_ ⟨rfl, HS_⟩; clear HS; have HS := HS_; clear HS_)
              go_roundg k1
              case measure => exact Nat.lt_succ_self _
              case rel =>
                have h1 := HII.out
                have h2 := HI.out
                refine ⟨i + 1, by rw [hwi, ← h1.1]; rfl, ⟨by omega, by omega⟩, ⟨?_⟩⟩
                rw [HQ.out]
                have e1 : R ++ ([115, 101, 99, 114, 101, 116, 32] ++ nm ++ [] ++ [59, 10]) = R ++ ([115, 101, 99, 114, 101, 116, 32] ++ nm) ++ [59, 10] := by simp
                rw [e1]
                exact HS.tail
      · have hkk : i = gs.length := by have := HI.out.1; omega
        subst hkk
        have hkb : decide (gs.length < gs.length) = false := decide_eq_false (Nat.lt_irrefl _)
        have hkb2 : decide ((gs.length : Int) < (gs.length : Int)) = false := decide_eq_false (by omega)
        rw [List.take_length] at hR
        have HRR := Aside0.mk hR
        clear hR hk HI
        have cb := HS.cell 1 rfl

        go_wp2
        go_loopg [40] (fs.length + 1) (fun kq v40 w' => ∃ (i : Nat), v40 = .int .i64 (i : Int) ∧ Aside0 (i ≤ fs.length ∧ fs.length + 1 ≤ kq + i) ∧ Aside0 (Sat W w' [bld gb (R ++ fsT (fs.take i)), blk gp 45 #[.slice A0 gs.length c0, .slice A1 fs.length c1], old W]))
        case atStart => exact ⟨0, rfl, ⟨by omega, by omega⟩, ⟨by rw [List.take_zero]; unfold fsT; rw [List.map_nil, List.flatten_nil, List.append_nil]; exact HS⟩⟩
        case round =>
          clear HS cb hkb hkb2
          obtain ⟨i, rfl, HI, HS'⟩ := hrel
          have HS := HS'.out
          clear HS'
          cases gk with
          | zero => have := HI.out; omega
          | succ k2 =>
            obtain ⟨R2, hR2⟩ : ∃ z_, z_ = R ++ fsT (fs.take i) := ⟨_, rfl⟩
            rw [← hR2] at HS
            by_cases hk : i < fs.length
            · obtain ⟨I, hI_⟩ : ∃ I : Int, (i : Int) = I := ⟨_, rfl⟩
              have pI : 0 ≤ I := by omega
              have q1 : I < (fs.length : Int) := by omega
              have c1_ : decide (I < (fs.length : Int)) = true := decide_eq_true q1
              have hbw := HS.old 2 rfl
              obtain ⟨ad, B1, d1, B2, d2, rfl, x0, x1, x2, x3, x4, l1, g1, l2, g2⟩ := at_T41 HC1.out I pI q1
              replace x0 := cell_below x0 hbw
              replace x1 := cell_below x1 hbw
              replace x2 := cell_below x2 hbw
              replace x3 := cell_below x3 hbw
              replace x4 := cell_below x4 hbw
              clear hbw
              have hq : rd_T41 fs I = fs[i] := by rw [← hI_]; exact rdF hk
              obtain ⟨q, hqq⟩ : ∃ z_, z_ = rd_T41 fs I := ⟨_, rfl⟩
              rw [← hqq] at x0 x1 x2 x3 x4 hq l1 g1 l2 g2
              have hmem : q ∈ fs := by rw [hq]; exact List.getElem_mem hk
              obtain ⟨nm, hnm⟩ : ∃ nm, q.f0 = bs nm := ⟨q.f0.data.toList, rfl⟩
              rw [hnm] at x0
              have hQ : R ++ fsT (fs.take (i + 1)) = R2 ++ ([102, 117, 110, 99, 32] ++ nm ++ [40] ++ Lib.join (q.f1.map (·.data.toList)) [44, 32] ++ [41, 32, 123, 10] ++ txtSs 1 q.f2 ++ [125, 10]) := by rw [fs_take hk, hR2, ← hq]; unfold fT; rw [hnm, ← List.append_assoc]; rfl
              have hlen := fs_take_le fs (i + 1)
              have htot := HOK.out.len
              unfold progT at htot
              rw [← HRR.out] at htot
              have hl2 := congrArg List.length hQ
              rw [List.length_append] at hl2 htot
              obtain ⟨hok2, hro2, h10⟩ := HOK.out.fok q hmem
              obtain ⟨JN, hJN⟩ : ∃ t, t = Lib.join (q.f1.map (·.data.toList)) [44, 32] := ⟨_, rfl⟩
              obtain ⟨BT, hBT⟩ : ∃ t, t = txtSs 1 q.f2 := ⟨_, rfl⟩
              rw [← hJN, ← hBT] at hQ hl2
              have hln : R2.length + ([102, 117, 110, 99, 32] ++ nm ++ [40] ++ JN ++ [41, 32, 123, 10] ++ BT ++ [125, 10]).length ≤ 140737488355328 := by
                have := bx_le
                rw [List.length_append] at hl2
                omega
              have hjl : JN.length ≤ 140737488355328 := by simp only [List.length_append, List.length_cons, List.length_nil] at hln; omega
              have hbl : BT.length ≤ BX := by have : BX = 140737488355328 := rfl; simp only [List.length_append, List.length_cons, List.length_nil] at hln; omega
              have hnl : nm.length ≤ 140737488355328 := by simp only [List.length_append, List.length_cons, List.length_nil] at hln; omega
              have HJ := Aside0.mk (fun (w : World) (hb : Below W.heap.size W w) => join_at (w := w) (Kd.C_below g1 hb) l1 [44, 32] (by omega) (by rw [← hJN]; exact hjl))
              have HL := Aside0.mk (fun (w : World) (hb : Below W.heap.size W w) => lines_calls q.f2 w 1 B2 d2 (HG.out.below hb) hok2 hro2 (by rw [← hBT]; exact hbl) (Kd.C_below g2 hb) l2)
              rw [← hJN] at HJ
              rw [← hBT] at HL
              have HQ := Aside0.mk hQ
              have hwi : wrap64 (I + 1) = I + 1 := w64 _ (by omega) (by have := HN1.out; omega)
              have HII := Aside0.mk (show (i : Int) = I ∧ i < fs.length from ⟨hI_, hk⟩)
              have hql1 : q.f1.length ≤ 9223372036854775807 := g1.2.1
              have hql2 : q.f2.length ≤ 9223372036854775807 := g2.2.1
              rw [hI_]
              clear hq hqq hmem hnm hQ hlen htot hl2 hok2 hro2 h10 hJN hBT hI_ hk hR2 g1 g2 l1 l2
              have r1 := eq_true pI
              have r2 := eq_true q1
              go_upto_region 13 with (first | ((with_reducible refine gate_dst (N := 7) rfl ?_); go_must (refine ev_box HS rfl (N := 7) rfl (cs := #[.string ⟨#[]⟩, .slice none 0 0, .slice none 0 0, .int .i64 0, .int .i64 0]) (t := 41) ?hrun ?_); (case hrun => first | (go_simp; done) | (go_simp; rfl)); clear HS; intro gq w HS) | ((with_reducible refine gate_store (t := 41) (p := 7) rfl ?_); go_must (refine ev_store HS 0 rfl rfl 41 (.tmp 7) (.tmp 43) rfl rfl rfl [.string (bs nm), .slice B1 q.f1.length d1, .slice B2 q.f2.length d2, .int .i64 q.f3.f0, .int .i64 q.f3.f1] ?hx (by kernel_rfl) (by rfl) ?h1 ?_); (case hx => first | rfl | (go_simp; done)); (case h1 => simp [Value.oneCell']); clear HS; intro w HS))
              clear x0 x1 x2 x3 x4 r1 r2 pI q1
              replace HS : Sat W _ [blk gq 41 #[.string (bs nm), .slice B1 q.f1.length d1, .slice B2 q.f2.length d2, .int .i64 q.f3.f0, .int .i64 q.f3.f1], bld gb R2, blk gp 45 _, old W] := HS
              have cb := HS.cell 0 rfl
              refine start_ (n := 15) (S := fun w' => ∃ L', Sat W w' (blk gq 41 #[.string (bs nm), .slice B1 q.f1.length d1, .slice B2 q.f2.length d2, .int .i64 q.f3.f0, .int .i64 q.f3.f1] :: L')) (ds := []) #[false, false, false, false, false, false, false, false, false, false, false, false, false, false, false] (by kernel_rfl) rfl rfl ⟨_, HS.drew⟩ (fun hHeld => ?_)
              replace HS := HS.drew
              generalize World.drew w = w at HS hHeld ⊢
              refine pure_ (i := 0) (N := some 44) (v := ?_) (a' := ?_) #[true, false, false, false, false, false, false, false, false, false, false, false, false, false, false] rfl rfl (by kernel_rfl) (fun _ _ _ h => h) (Or.inl ⟨by rfl, ?_⟩) ?_ ?_
              rotate_left
              · intro w'
                go_simp
                with_reducible rfl
              rotate_left
              · (try simp only [Act.put, List.setIfInBounds_toArray, List.set_cons_zero, List.set_cons_succ, i64_w, i32_w])
                rfl
              refine take_ (i := 1) (N := some 45) (v := ?_) (a' := ?_) #[true, true, false, false, false, false, false, false, false, false, false, false, false, false, false] rfl rfl (by kernel_rfl) (fun _ _ _ h => h) (Or.inl ⟨by rfl, ?_⟩) hHeld ?_ ?_
              rotate_left
              · rintro w' hS
                obtain ⟨L', hS⟩ := hS
                have cb := hS.cell 0 rfl
                go_simp
                with_reducible rfl
              rotate_left
              · (try simp only [Act.put, List.setIfInBounds_toArray, List.set_cons_zero, List.set_cons_succ, i64_w, i32_w])
                rfl
              refine pure_ (i := 2) (N := some 46) (v := .string (bs (([102, 117, 110, 99, 32]) ++ (nm)))) (a' := ?_) #[true, true, true, false, false, false, false, false, false, false, false, false, false, false, false] rfl rfl (by kernel_rfl) (fun _ _ _ h => h) (Or.inl ⟨by rfl, ?_⟩) ?_ ?_
              · intro w'
                exact run_cat (t := 9) (t' := 9) (p := [102, 117, 110, 99, 32]) (q := nm) Tryd.underlying9 rfl rfl rfl (by (try simp only [List.length_append, List.length_cons, List.length_nil]); (try simp only [List.length_append, List.length_cons, List.length_nil] at hln); omega) w'
              rotate_left
              · (try simp only [Act.put, List.setIfInBounds_toArray, List.set_cons_zero, List.set_cons_succ, i64_w, i32_w])
                rfl
              refine pure_ (i := 3) (N := some 47) (v := .string (bs (([102, 117, 110, 99, 32] ++ nm) ++ ([40])))) (a' := ?_) #[true, true, true, true, false, false, false, false, false, false, false, false, false, false, false] rfl rfl (by kernel_rfl) (fun _ _ _ h => h) (Or.inl ⟨by rfl, ?_⟩) ?_ ?_
              · intro w'
                exact run_cat (t := 9) (t' := 9) (p := [102, 117, 110, 99, 32] ++ nm) (q := [40]) Tryd.underlying9 rfl rfl rfl (by (try simp only [List.length_append, List.length_cons, List.length_nil]); (try simp only [List.length_append, List.length_cons, List.length_nil] at hln); omega) w'
              rotate_left
              · (try simp only [Act.put, List.setIfInBounds_toArray, List.set_cons_zero, List.set_cons_succ, i64_w, i32_w])
                rfl
              refine pure_ (i := 4) (N := some 48) (v := ?_) (a' := ?_) #[true, true, true, true, true, false, false, false, false, false, false, false, false, false, false] rfl rfl (by kernel_rfl) (fun _ _ _ h => h) (Or.inl ⟨by rfl, ?_⟩) ?_ ?_
              rotate_left
              · intro w'
                go_simp
                with_reducible rfl
              rotate_left
              · (try simp only [Act.put, List.setIfInBounds_toArray, List.set_cons_zero, List.set_cons_succ, i64_w, i32_w])
                rfl
              refine take_ (i := 5) (N := some 49) (v := ?_) (a' := ?_) #[true, true, true, true, true, true, false, false, false, false, false, false, false, false, false] rfl rfl (by kernel_rfl) (fun _ _ _ h => h) (Or.inl ⟨by rfl, ?_⟩) hHeld ?_ ?_
              rotate_left
              · rintro w' hS
                obtain ⟨L', hS⟩ := hS
                have cb := hS.cell 0 rfl
                go_simp
                with_reducible rfl
              rotate_left
              · (try simp only [Act.put, List.setIfInBounds_toArray, List.set_cons_zero, List.set_cons_succ, i64_w, i32_w])
                rfl
              refine pure_ (i := 9) (N := some 53) (v := ?_) (a' := ?_) #[true, true, true, true, true, true, false, false, false, true, false, false, false, false, false] rfl rfl (by kernel_rfl) (fun _ _ _ h => h) (Or.inl ⟨by rfl, ?_⟩) ?_ ?_
              rotate_left
              · intro w'
                go_simp
                with_reducible rfl
              rotate_left
              · (try simp only [Act.put, List.setIfInBounds_toArray, List.set_cons_zero, List.set_cons_succ, i64_w, i32_w])
                rfl
              refine take_ (i := 10) (N := some 54) (v := ?_) (a' := ?_) #[true, true, true, true, true, true, false, false, false, true, true, false, false, false, false] rfl rfl (by kernel_rfl) (fun _ _ _ h => h) (Or.inl ⟨by rfl, ?_⟩) hHeld ?_ ?_
              rotate_left
              · rintro w' hS
                obtain ⟨L', hS⟩ := hS
                have cb := hS.cell 0 rfl
                go_simp
                with_reducible rfl
              rotate_left
              · (try simp only [Act.put, List.setIfInBounds_toArray, List.set_cons_zero, List.set_cons_succ, i64_w, i32_w])
                rfl
              refine one_ (i := 6) (N := some 50) #[true, true, true, true, true, true, true, false, false, true, true, false, false, false, false] rfl rfl (by kernel_rfl) (by decide) (fun K hK => ?_)
              refine goes_ Tryd.func38 (by kernel_rfl) rfl #[.slice B1 q.f1.length d1, .string (bs [44, 32])] (by rfl) rfl rfl (by (try simp only [List.map_toArray, List.map_cons, List.map_nil]); first | done | rfl) ?_
              refine (HJ.out _ (HS.old 3 rfl)).mono ?_
              rintro e w_ ⟨rfl, hb⟩
              refine ⟨_, rfl, ?_⟩
              replace HS := HS.below hb
              clear hb
              refine hK.out _ _ ⟨_, HS⟩ (fun hHeld => ?_)
              clear hK K
              refine norm_ (a' := ?_) ?_ ?_
              rotate_left
              · show Act.put _ _ _ = _
                (try simp only [Act.put, List.setIfInBounds_toArray, List.set_cons_zero, List.set_cons_succ, i64_w, i32_w])
                rfl
              refine pure_ (i := 7) (N := some 51) (v := .string (bs (([102, 117, 110, 99, 32] ++ nm ++ [40]) ++ (JN)))) (a' := ?_) #[true, true, true, true, true, true, true, true, false, true, true, false, false, false, false] rfl rfl (by kernel_rfl) (fun _ _ _ h => h) (Or.inl ⟨by rfl, ?_⟩) ?_ ?_
              · intro w'
                exact run_cat (t := 9) (t' := 9) (p := [102, 117, 110, 99, 32] ++ nm ++ [40]) (q := JN) Tryd.underlying9 rfl rfl rfl (by (try simp only [List.length_append, List.length_cons, List.length_nil]); (try simp only [List.length_append, List.length_cons, List.length_nil] at hln); omega) w'
              rotate_left
              · (try simp only [Act.put, List.setIfInBounds_toArray, List.set_cons_zero, List.set_cons_succ, i64_w, i32_w])
                rfl
              refine pure_ (i := 8) (N := some 52) (v := .string (bs (([102, 117, 110, 99, 32] ++ nm ++ [40] ++ JN) ++ ([41, 32, 123, 10])))) (a' := ?_) #[true, true, true, true, true, true, true, true, true, true, true, false, false, false, false] rfl rfl (by kernel_rfl) (fun _ _ _ h => h) (Or.inl ⟨by rfl, ?_⟩) ?_ ?_
              · intro w'
                exact run_cat (t := 9) (t' := 9) (p := [102, 117, 110, 99, 32] ++ nm ++ [40] ++ JN) (q := [41, 32, 123, 10]) Tryd.underlying9 rfl rfl rfl (by (try simp only [List.length_append, List.length_cons, List.length_nil]); (try simp only [List.length_append, List.length_cons, List.length_nil] at hln); omega) w'
              rotate_left
              · (try simp only [Act.put, List.setIfInBounds_toArray, List.set_cons_zero, List.set_cons_succ, i64_w, i32_w])
                rfl
              refine one_ (i := 11) (N := some 55) #[true, true, true, true, true, true, true, true, true, true, true, true, false, false, false] rfl rfl (by kernel_rfl) (by decide) (fun K hK => ?_)
              refine goes_ Tryd.func33 (by kernel_rfl) rfl #[.slice B2 q.f2.length d2, .int .i64 ((1 : Nat) : Int)] (by rfl) rfl rfl (by (try simp only [List.map_toArray, List.map_cons, List.map_nil]); first | done | rfl) ?_
              refine (HL.out _ (HS.old 3 rfl)).mono ?_
              rintro e w_ ⟨rfl, hb⟩
              refine ⟨_, rfl, ?_⟩
              replace HS := HS.below hb
              clear hb
              refine hK.out _ _ ⟨_, HS⟩ (fun hHeld => ?_)
              clear hK K
              refine norm_ (a' := ?_) ?_ ?_
              rotate_left
              · show Act.put _ _ _ = _
                (try simp only [Act.put, List.setIfInBounds_toArray, List.set_cons_zero, List.set_cons_succ, i64_w, i32_w])
                rfl
              refine pure_ (i := 12) (N := some 56) (v := .string (bs (([102, 117, 110, 99, 32] ++ nm ++ [40] ++ JN ++ [41, 32, 123, 10]) ++ (BT)))) (a' := ?_) #[true, true, true, true, true, true, true, true, true, true, true, true, true, false, false] rfl rfl (by kernel_rfl) (fun _ _ _ h => h) (Or.inl ⟨by rfl, ?_⟩) ?_ ?_
              · intro w'
                exact run_cat (t := 9) (t' := 9) (p := [102, 117, 110, 99, 32] ++ nm ++ [40] ++ JN ++ [41, 32, 123, 10]) (q := BT) Tryd.underlying9 rfl rfl rfl (by (try simp only [List.length_append, List.length_cons, List.length_nil]); (try simp only [List.length_append, List.length_cons, List.length_nil] at hln); omega) w'
              rotate_left
              · (try simp only [Act.put, List.setIfInBounds_toArray, List.set_cons_zero, List.set_cons_succ, i64_w, i32_w])
                rfl
              refine pure_ (i := 13) (N := some 57) (v := .string (bs (([102, 117, 110, 99, 32] ++ nm ++ [40] ++ JN ++ [41, 32, 123, 10] ++ BT) ++ ([125, 10])))) (a' := ?_) #[true, true, true, true, true, true, true, true, true, true, true, true, true, true, false] rfl rfl (by kernel_rfl) (fun _ _ _ h => h) (Or.inl ⟨by rfl, ?_⟩) ?_ ?_
              · intro w'
                exact run_cat (t := 9) (t' := 9) (p := [102, 117, 110, 99, 32] ++ nm ++ [40] ++ JN ++ [41, 32, 123, 10] ++ BT) (q := [125, 10]) Tryd.underlying9 rfl rfl rfl (by (try simp only [List.length_append, List.length_cons, List.length_nil]); (try simp only [List.length_append, List.length_cons, List.length_nil] at hln); omega) w'
              rotate_left
              · (try simp only [Act.put, List.setIfInBounds_toArray, List.set_cons_zero, List.set_cons_succ, i64_w, i32_w])
                rfl
              refine one_ (i := 14) (N := some 58) #[true, true, true, true, true, true, true, true, true, true, true, true, true, true, true] rfl rfl (by kernel_rfl) (by decide) (fun K hK => ?_)
              refine goes_ Tryd.func37 (by kernel_rfl) rfl #[.pointer (some ⟨gb, 0, none⟩), .string (bs ([102, 117, 110, 99, 32] ++ nm ++ [40] ++ JN ++ [41, 32, 123, 10] ++ BT ++ [125, 10]))] (by rfl) rfl rfl (by (try simp only [List.map_toArray, List.map_cons, List.map_nil]); first | done | rfl) ?_
              refine (write_calls 1 rfl ([102, 117, 110, 99, 32] ++ nm ++ [40] ++ JN ++ [41, 32, 123, 10] ++ BT ++ [125, 10]) hln HS).mono ?_
              rintro e w_ ⟨rfl, HS_⟩
              refine ⟨_, rfl, ?_⟩
              clear HS
              have HS := HS_
              clear HS_
              refine hK.out _ _ ⟨_, HS⟩ (fun hHeld => ?_)
              clear hK K
              refine norm_ (a' := ?_) ?_ ?_
              rotate_left
              · show Act.put _ _ _ = _
                (try simp only [Act.put, List.setIfInBounds_toArray, List.set_cons_zero, List.set_cons_succ, i64_w, i32_w])
                rfl
              refine done_ (by kernel_rfl) ?_
              clear hHeld
              go_wp2
              go_roundg k2
              case measure => exact Nat.lt_succ_self _
              case rel =>
                have h1 := HII.out
                have h2 := HI.out
                refine ⟨i + 1, by rw [hwi, ← h1.1]; rfl, ⟨by omega, by omega⟩, ⟨?_⟩⟩
                rw [HQ.out]
                exact HS.tail
            · have hkk : i = fs.length := by have := HI.out.1; omega
              subst hkk
              have hkb : decide (fs.length < fs.length) = false := decide_eq_false (Nat.lt_irrefl _)
              have hkb2 : decide ((fs.length : Int) < (fs.length : Int)) = false := decide_eq_false (by omega)
              rw [List.take_length] at hR2
              have HRR2 := Aside0.mk hR2
              clear hR2 hk HI
              go_wp2_with (go_at_call 39; refine (string_calls 0 rfl 2 rfl (by decide) HS).mono ?_; rintro e w_ ⟨rfl, hb⟩; clear HS)
              go_ret
              refine ⟨ret_bs ?_, by assumption⟩
              rw [HRR2.out, HRR.out]
              rfl
end Go.Proofs.YtaammdmaldodaaaDoor.B
