/- ImageStarts: memory at the beginning, and the arrays' words in it: its walk. -/
import Derived.Test.YteabbcnoamhofaaImgRightP
import Derived.Test.YteabbcnoamhofaaBx6
namespace Go.Proofs.Yteabbcnoamhofaa.B
open Go.RowKit Go.Proofs.Yteabbcnoamhofaa.Mine Go.Proofs.Yteabbcnoamhofaa.Sep Go.Proofs.Yteabbcnoamhofaa.Copy Go.Proofs.YteabbcnoamhofaaW.PrintWords Go.Proofs.YteabbcnoamhofaaW.PrintLast Go.Proofs.YteabbcnoamhofaaW.PrintMore
set_option linter.unusedVariables false
set_option linter.unusedSimpArgs false
theorem few18_total (C : List S26) (A : List S33) (st mem : Int) : ∃ t, palingslaw18_few.f C A st mem = some t ∧ (t = true → C.length ≤ 60 ∧ A.length ≤ 80) := by
  unfold palingslaw18_few.f
  split
  · exact ⟨_, rfl, fun h => by simp at h; omega⟩
  · exact ⟨_, rfl, fun h => by cases h⟩
theorem chain_snoc : ∀ {A : List S33} {e m : Int} {a : S33}, Chain e A m → a.f0 = m → 1 ≤ a.f1 → a.f1 ≤ 4096 → Chain e (A ++ [a]) (a.f0 + a.f1)
  | [], e, m, a, h, h1, h2, h3 => by cases h; exact ⟨h1, h2, h3, by rw [h1]; rfl⟩
  | b :: r, e, m, a, ⟨g1, g2, g3, g4⟩, h1, h2, h3 => ⟨g1, g2, g3, chain_snoc g4 h1 h2 h3⟩
theorem row_own {W0 w : World} {L : List Chunk} {A : Option Addr} {n c : Nat} {m : List Int} (HS : Sat W0 w L) (i : Nat) (hi : L[i]? = some (row IW 2 (.slice A n c) m)) : w.ownsRow 0 2 1 (.slice A n c) n (nums .i64 m) := by
  obtain ⟨s, h⟩ := HS.row i hi
  have h2 := Kd.own_of_R (enc := Value.int .i64) (h1 := fun _ => rfl) h
  rw [(HS.cap i hi).1]
  have e := (HS.cap i hi).1
  subst e
  exact h2
/-- A word of an own row: read, and written. -/
theorem Sat.word {W0 w : World} {L : List Chunk} {A : Option Addr} {n c : Nat} {m : List Int} (HS : Sat W0 w L) (i : Nat) (hi : L[i]? = some (row IW 2 (.slice A n c) m)) (a : Int) (h0 : 0 ≤ a) (h1 : a < (m.length : Int)) :
    ∃ g, A = some ⟨g, 0, none⟩ ∧ w.cell? ⟨g, a.toNat, none⟩ = some (.int .i64 (rd m a)) ∧ w.frozen? ⟨g, a.toNat, none⟩ = false ∧ ∀ v, Sat W0 (w.setCell ⟨g, a.toNat, none⟩ (.int .i64 v)) (L.set i (row IW 2 (.slice A n c) (m.set a.toNat v))) := by
  obtain ⟨e, hc⟩ := HS.cap i hi
  subst e
  have ho := row_own HS i hi
  obtain ⟨g, cap, he, hg, hcell⟩ := ho.form (by omega)
  injection he with he1 he2 he3
  subst he1
  obtain ⟨h2, h3⟩ := own_at ho a h0 (by omega)
  refine ⟨g, rfl, h2, h3, fun v => HS.upd i hi fun s h => ⟨⟨rfl, rfl, rfl, by simp [World.setCell], fun k _ hs => Below.heap_setCell w ⟨g, a.toNat, none⟩ _ k (fun e => hs (by rw [show k = g from e]; exact h.1 g (by simp [Value.ownBlock])))⟩, ?_⟩⟩
  have h4 := (own_store ho a v).1
  have h5 := Kd.R_of_own (enc := Value.int .i64) (h1 := fun _ => rfl) (ok := s) (xs := m.set a.toNat v) (by rw [List.length_set]; exact h4) h.1
  exact Kd.R_mono h5 (fun k hk => .inl hk)
theorem head18 : palingslaw18_head.f 20 = some true := by decide +kernel
section
variable {Ac : Option Addr} {cc : Nat} {code : List S26} {Aa : Option Addr} {ca : Nat} {arrs : List S33} {st me : Int} {Ai : Option Addr} {ci : Nat} {ins : List (List Int)}
set_option maxRecDepth 100000 in
set_option maxHeartbeats 4000000 in
theorem starts_few (W : World) (hC : Kd.C k26 W Ac code.length code) (hcc : code.length ≤ cc) (hA : Kd.C k33 W Aa arrs.length arrs) (hca : arrs.length ≤ ca) (hI : Kd.C (Kd.slice 2 (Kd.int .i64)) W Ai ins.length ins) (hci : ins.length ≤ ci) (hf : palingslaw18_few.f code arrs st me = some false) :
    Calls Try.prog 4 #[.agg #[.slice Ac code.length cc, .slice Aa arrs.length ca, .int .i64 st, .int .i64 me], .slice Ai ins.length ci] W fun e W' => e = .returned (.bool true) ∧ Below W.heap.size W W' := by
  have HS := Sat.start W
  have HF := Aside0.mk hf
  clear hf
  go_enter Try.func4, Try.ntmps4
  go_upto_region 1 with ((with_reducible refine gate_dst (N := 2) rfl ?_); go_must (refine ev_box HS rfl (N := 2) rfl (cs := #[.slice Ac code.length cc, .slice Aa arrs.length ca, .int .i64 st, .int .i64 me]) (t := 30) ?hrun ?_); (case hrun => first | (go_simp; done) | (go_simp; rfl)); clear HS; intro gb w HS)
  go_upto_region 3 with (go_at_call 7; (with_reducible refine (palingslaw18_head.calls 20 true _ head18).mono ?_); rintro e w ⟨rfl, hb⟩; replace HS := HS.below hb; clear hb)
  have cb := HS.cell 0 rfl
  have HC := Aside0.mk (Kd.C_below hC (HS.old 1 rfl))
  have HA := Aside0.mk (Kd.C_below hA (HS.old 1 rfl))
  go_wp2_with (go_at_call 9; (with_reducible refine (palingslaw18_few.calls _ _ code _ _ arrs st me false _ HC.out hcc HA.out hca HF.out).mono ?_); rintro e w ⟨rfl, hb⟩; replace HS := HS.below hb; clear hb; have cb := HS.cell 0 rfl; have HC := Aside0.mk (Kd.C_below hC (HS.old 1 rfl)); have HA := Aside0.mk (Kd.C_below hA (HS.old 1 rfl)))
  go_ret
  exact ⟨rfl, HS.old 1 rfl⟩
set_option maxRecDepth 100000 in
set_option maxHeartbeats 4000000 in
theorem starts_right (W : World) (hC : Kd.C k26 W Ac code.length code) (hcc : code.length ≤ cc) (hA : Kd.C k33 W Aa arrs.length arrs) (hca : arrs.length ≤ ca) (hI : Kd.C (Kd.slice 2 (Kd.int .i64)) W Ai ins.length ins) (hci : ins.length ≤ ci) (hf : palingslaw18_few.f code arrs st me = some true) {k : Nat} (hr : palingslaw18_right.f k code arrs st me = some false) :
    Calls Try.prog 4 #[.agg #[.slice Ac code.length cc, .slice Aa arrs.length ca, .int .i64 st, .int .i64 me], .slice Ai ins.length ci] W fun e W' => e = .returned (.bool true) ∧ Below W.heap.size W W' := by
  have HS := Sat.start W
  have HF := Aside0.mk hf
  clear hf
  have HR := Aside0.mk hr
  clear hr
  go_enter Try.func4, Try.ntmps4
  go_upto_region 1 with ((with_reducible refine gate_dst (N := 2) rfl ?_); go_must (refine ev_box HS rfl (N := 2) rfl (cs := #[.slice Ac code.length cc, .slice Aa arrs.length ca, .int .i64 st, .int .i64 me]) (t := 30) ?hrun ?_); (case hrun => first | (go_simp; done) | (go_simp; rfl)); clear HS; intro gb w HS)
  go_upto_region 3 with (go_at_call 7; (with_reducible refine (palingslaw18_head.calls 20 true _ head18).mono ?_); rintro e w ⟨rfl, hb⟩; replace HS := HS.below hb; clear hb)
  have cb := HS.cell 0 rfl
  have HC := Aside0.mk (Kd.C_below hC (HS.old 1 rfl))
  have HA := Aside0.mk (Kd.C_below hA (HS.old 1 rfl))
  go_wp2_with (first | (go_at_call 9; (with_reducible refine (palingslaw18_few.calls _ _ code _ _ arrs st me true _ HC.out hcc HA.out hca HF.out).mono ?_); rintro e w ⟨rfl, hb⟩; replace HS := HS.below hb; clear hb; have cb := HS.cell 0 rfl; have HC := Aside0.mk (Kd.C_below hC (HS.old 1 rfl)); have HA := Aside0.mk (Kd.C_below hA (HS.old 1 rfl))) | (go_at_call 10; (with_reducible refine (palingslaw18_right.calls k _ _ code _ _ arrs st me false _ HC.out hcc HA.out hca HR.out).mono ?_); rintro e w ⟨rfl, hb⟩; replace HS := HS.below hb; clear hb; have cb := HS.cell 0 rfl))
  go_ret
  exact ⟨rfl, HS.old 1 rfl⟩
set_option maxRecDepth 100000 in
set_option maxHeartbeats 4000000 in
theorem starts_long (W : World) (hC : Kd.C k26 W Ac code.length code) (hcc : code.length ≤ cc) (hA : Kd.C k33 W Aa arrs.length arrs) (hca : arrs.length ≤ ca) (hI : Kd.C (Kd.slice 2 (Kd.int .i64)) W Ai ins.length ins) (hci : ins.length ≤ ci) (hf : palingslaw18_few.f code arrs st me = some true) {k : Nat} (hr : palingslaw18_right.f k code arrs st me = some true) (hx : decide (20 < (ins.length : Int)) = true) :
    Calls Try.prog 4 #[.agg #[.slice Ac code.length cc, .slice Aa arrs.length ca, .int .i64 st, .int .i64 me], .slice Ai ins.length ci] W fun e W' => e = .returned (.bool true) ∧ Below W.heap.size W W' := by
  have HS := Sat.start W
  have HF := Aside0.mk hf
  clear hf
  have HR := Aside0.mk hr
  clear hr
  go_enter Try.func4, Try.ntmps4
  go_upto_region 1 with ((with_reducible refine gate_dst (N := 2) rfl ?_); go_must (refine ev_box HS rfl (N := 2) rfl (cs := #[.slice Ac code.length cc, .slice Aa arrs.length ca, .int .i64 st, .int .i64 me]) (t := 30) ?hrun ?_); (case hrun => first | (go_simp; done) | (go_simp; rfl)); clear HS; intro gb w HS)
  go_upto_region 3 with (go_at_call 7; (with_reducible refine (palingslaw18_head.calls 20 true _ head18).mono ?_); rintro e w ⟨rfl, hb⟩; replace HS := HS.below hb; clear hb)
  have cb := HS.cell 0 rfl
  have HC := Aside0.mk (Kd.C_below hC (HS.old 1 rfl))
  have HA := Aside0.mk (Kd.C_below hA (HS.old 1 rfl))
  go_wp2_with (first | (go_at_call 9; (with_reducible refine (palingslaw18_few.calls _ _ code _ _ arrs st me true _ HC.out hcc HA.out hca HF.out).mono ?_); rintro e w ⟨rfl, hb⟩; replace HS := HS.below hb; clear hb; have cb := HS.cell 0 rfl; have HC := Aside0.mk (Kd.C_below hC (HS.old 1 rfl)); have HA := Aside0.mk (Kd.C_below hA (HS.old 1 rfl))) | (go_at_call 10; (with_reducible refine (palingslaw18_right.calls k _ _ code _ _ arrs st me true _ HC.out hcc HA.out hca HR.out).mono ?_); rintro e w ⟨rfl, hb⟩; replace HS := HS.below hb; clear hb; have cb := HS.cell 0 rfl))
  go_ret
  exact ⟨rfl, HS.old 1 rfl⟩
set_option maxRecDepth 100000 in
set_option maxHeartbeats 4000000 in
theorem starts_big (W : World) (hC : Kd.C k26 W Ac code.length code) (hcc : code.length ≤ cc) (hA : Kd.C k33 W Aa arrs.length arrs) (hca : arrs.length ≤ ca) (hI : Kd.C (Kd.slice 2 (Kd.int .i64)) W Ai ins.length ins) (hci : ins.length ≤ ci) (hf : palingslaw18_few.f code arrs st me = some true) {k : Nat} (hr : palingslaw18_right.f k code arrs st me = some true) (hx : decide (20 < (ins.length : Int)) = false) (hy : decide (20000 < me) = true) :
    Calls Try.prog 4 #[.agg #[.slice Ac code.length cc, .slice Aa arrs.length ca, .int .i64 st, .int .i64 me], .slice Ai ins.length ci] W fun e W' => e = .returned (.bool true) ∧ Below W.heap.size W W' := by
  have HS := Sat.start W
  have HF := Aside0.mk hf
  clear hf
  have HR := Aside0.mk hr
  clear hr
  go_enter Try.func4, Try.ntmps4
  go_upto_region 1 with ((with_reducible refine gate_dst (N := 2) rfl ?_); go_must (refine ev_box HS rfl (N := 2) rfl (cs := #[.slice Ac code.length cc, .slice Aa arrs.length ca, .int .i64 st, .int .i64 me]) (t := 30) ?hrun ?_); (case hrun => first | (go_simp; done) | (go_simp; rfl)); clear HS; intro gb w HS)
  go_upto_region 3 with (go_at_call 7; (with_reducible refine (palingslaw18_head.calls 20 true _ head18).mono ?_); rintro e w ⟨rfl, hb⟩; replace HS := HS.below hb; clear hb)
  have cb := HS.cell 0 rfl
  have HC := Aside0.mk (Kd.C_below hC (HS.old 1 rfl))
  have HA := Aside0.mk (Kd.C_below hA (HS.old 1 rfl))
  go_wp2_with (first | (go_at_call 9; (with_reducible refine (palingslaw18_few.calls _ _ code _ _ arrs st me true _ HC.out hcc HA.out hca HF.out).mono ?_); rintro e w ⟨rfl, hb⟩; replace HS := HS.below hb; clear hb; have cb := HS.cell 0 rfl; have HC := Aside0.mk (Kd.C_below hC (HS.old 1 rfl)); have HA := Aside0.mk (Kd.C_below hA (HS.old 1 rfl))) | (go_at_call 10; (with_reducible refine (palingslaw18_right.calls k _ _ code _ _ arrs st me true _ HC.out hcc HA.out hca HR.out).mono ?_); rintro e w ⟨rfl, hb⟩; replace HS := HS.below hb; clear hb; have cb := HS.cell 0 rfl))
  go_ret
  exact ⟨rfl, HS.old 1 rfl⟩
set_option maxRecDepth 100000 in
set_option maxHeartbeats 4000000 in
theorem starts_main (W : World) (hC : Kd.C k26 W Ac code.length code) (hcc : code.length ≤ cc) (hA : Kd.C k33 W Aa arrs.length arrs) (hca : arrs.length ≤ ca) (hI : Kd.C (Kd.slice 2 (Kd.int .i64)) W Ai ins.length ins) (hci : ins.length ≤ ci) (hf : palingslaw18_few.f code arrs st me = some true) {k : Nat} (hr : palingslaw18_right.f k code arrs st me = some true) (hR : Right18 arrs st me) (hx : decide (20 < (ins.length : Int)) = false) (hy : decide (20000 < me) = false) :
    Calls Try.prog 4 #[.agg #[.slice Ac code.length cc, .slice Aa arrs.length ca, .int .i64 st, .int .i64 me], .slice Ai ins.length ci] W fun e W' => e = .returned (.bool true) ∧ Below W.heap.size W W' := by
  have HS := Sat.start W
  have HF := Aside0.mk hf
  clear hf
  have HR := Aside0.mk hr
  clear hr
  have hins : ins.length ≤ 20 := by have := of_decide_eq_false hx; omega
  have hme1 : me ≤ 20000 := by have := of_decide_eq_false hy; omega
  go_enter Try.func4, Try.ntmps4
  go_upto_region 1 with ((with_reducible refine gate_dst (N := 2) rfl ?_); go_must (refine ev_box HS rfl (N := 2) rfl (cs := #[.slice Ac code.length cc, .slice Aa arrs.length ca, .int .i64 st, .int .i64 me]) (t := 30) ?hrun ?_); (case hrun => first | (go_simp; done) | (go_simp; rfl)); clear HS; intro gb w HS)
  go_upto_region 3 with (go_at_call 7; (with_reducible refine (palingslaw18_head.calls 20 true _ head18).mono ?_); rintro e w ⟨rfl, hb⟩; replace HS := HS.below hb; clear hb)
  have cb := HS.cell 0 rfl
  have HC := Aside0.mk (Kd.C_below hC (HS.old 1 rfl))
  have HA := Aside0.mk (Kd.C_below hA (HS.old 1 rfl))
  go_upto_region 5 with (first | (go_at_call 9; (with_reducible refine (palingslaw18_few.calls _ _ code _ _ arrs st me true _ HC.out hcc HA.out hca HF.out).mono ?_); rintro e w ⟨rfl, hb⟩; replace HS := HS.below hb; clear hb; have cb := HS.cell 0 rfl; have HC := Aside0.mk (Kd.C_below hC (HS.old 1 rfl)); have HA := Aside0.mk (Kd.C_below hA (HS.old 1 rfl))) | (go_at_call 10; (with_reducible refine (palingslaw18_right.calls k _ _ code _ _ arrs st me true _ HC.out hcc HA.out hca HR.out).mono ?_); rintro e w ⟨rfl, hb⟩; replace HS := HS.below hb; clear hb; have cb := HS.cell 0 rfl))
  go_wp2
  go_loop [6, 46] (fun _ i => ∃ k : Nat, k ≤ ins.length ∧ i = .int .i64 (k : Int)) (fun _ i => ins.length - (intOf i).toNat)
  case atStart => exact ⟨0, Nat.zero_le _, rfl⟩
  case round =>
    obtain ⟨i, hi, rfl⟩ := hrel
    by_cases hlt : i < ins.length
    · obtain ⟨I, hI_⟩ : ∃ I : Int, (i : Int) = I := ⟨_, rfl⟩
      have p1 : 0 ≤ I := by omega
      have q1 : I < (ins.length : Int) := by omega
      have c1_ : decide (I < (ins.length : Int)) = true := decide_eq_true q1
      obtain ⟨ad, A0, c0, rfl, x0, _, _⟩ := at_L2 (Kd.C_below hI (HS.old 1 rfl)) I p1 q1
      have HII := Aside0.mk hI_
      rw [hI_]
      clear hI_
      have r1 := eq_true p1
      have r2 := eq_true q1
      by_cases hw : 200 < ((rd_L2 ins I).length : Int)
      · have hwb : decide (200 < ((rd_L2 ins I).length : Int)) = true := decide_eq_true hw
        go_wp2
        go_ret
        exact ⟨rfl, HS.old 1 rfl⟩
      · have hwb : decide (200 < ((rd_L2 ins I).length : Int)) = false := decide_eq_false hw
        go_wp2
        go_round
        case rel => exact ⟨i + 1, by omega, by have := HII.out; congr 1; push_cast; omega⟩
        case measure => simp [intOf]; have := HII.out; omega
    · have hii : i = ins.length := by omega
      subst hii
      have hkb : decide (ins.length < ins.length) = false := decide_eq_false (Nat.lt_irrefl _)
      obtain ⟨fin, hch, hfin⟩ := hR.chain
      have hl18 := fun a ha => (Chain.lies (Int.le_refl 0) hch a ha).1
      have hlm : ∀ a ∈ arrs, Lies me a := fun a ha => ⟨(hl18 a ha).at0, (hl18 a ha).sz1, (hl18 a ha).sz2, by have := (hl18 a ha).fit; have := hR.s1; omega⟩
      have hal : arrs.length ≤ 1000 := by have := hR.a1; omega
      have hs0 := hR.s0
      have hs1 := hR.s1
      have hm1 := hR.m1
      obtain ⟨M, hM⟩ : ∃ M, M = startF ins arrs me := ⟨_, rfl⟩
      have hML : M.length = me.toNat := by rw [hM]; unfold startF; rw [startL_length, List.length_replicate]
      go_upto_region 12 with (go_at_call 11; refine (start_calls (ca := ca) (ci := ci) (fun w h => Kd.C_below hA (h.old 1 rfl)) (fun w h => Kd.C_below hI (h.old 1 rfl)) hlm hal (by omega) hm1 HS).mono ?_; rintro e w ⟨Ap, np, cp, rfl, HS_⟩; clear HS; have HS := HS_; clear HS_)
      rw [← hM] at HS
      obtain ⟨hnp, hcp⟩ := HS.cap 0 rfl
      subst hnp
      have cb := HS.cell 1 rfl
      have HMM := Aside0.mk hM
      have HMLL := Aside0.mk hML
      have hWL : (wordsF arrs M).length = arrs.length := List.length_map _
      have HWL := Aside0.mk hWL
      have hme : ((M.length : Int) != me) = false := by rw [show (M.length : Int) = me by omega]; exact bne_self_eq_false me
      clear hM hML hWL
      go_upto_region 13 with (go_at_call 12; refine (words_calls (ca := ca) (cm := cp) (fun w h => Kd.C_below hA (h.old 2 rfl)) (fun w h => h.C 0 rfl) hcp (by have := HMLL.out; omega) (fun a ha => ⟨(hl18 a ha).at0, (hl18 a ha).sz1, (hl18 a ha).sz2⟩) hal HS).mono ?_; rintro e w ⟨v, rfl, HS_⟩; clear HS; have HS := HS_; clear HS_; obtain ⟨Aw, cw, rfl⟩ := HS.slice 0 rfl; rw [HWL.out] at HS ⊢)
      have cb := HS.cell 2 rfl
      go_upto_region 17 with (fail)
      have HCH := Aside0.mk hch
      have HL := Aside0.mk hl18
      clear hme hch hl18 hlm
      go_wp2
      go_loopg [9, 10, 76] (arrs.length + 1) (fun kq v9 v10 v76 w' => ∃ (i : Nat) (e : Int), v9 = .int .i64 ((asks (arrs.take i) : Nat) : Int) ∧ v10 = .int .i64 e ∧ v76 = .int .i64 (i : Int) ∧ Aside0 (i ≤ arrs.length ∧ arrs.length + 1 ≤ kq + i ∧ Chain 0 (arrs.take i) e ∧ Chain e (arrs.drop i) fin) ∧
          Aside0 (Sat W w' [row (Kd.slice 2 IW) 37 (.slice Aw arrs.length cw) (wordsF arrs M), row IW 2 (.slice Ap M.length cp) M, blk gb 30 #[.slice Ac code.length cc, .slice Aa arrs.length ca, .int .i64 st, .int .i64 me], old W]))
      case atStart => exact ⟨0, 0, rfl, rfl, rfl, ⟨by omega, by omega, rfl, HCH.out⟩, ⟨HS⟩⟩
      case round =>
        clear HS cb
        obtain ⟨i, e, rfl, rfl, rfl, HJ, HS'⟩ := hrel
        have HS := HS'.out
        clear HS'
        cases gk with
        | zero => have := HJ.out; omega
        | succ k1 =>
          have cb := HS.cell 2 rfl
          by_cases hk : i < arrs.length
          · obtain ⟨I, hI_⟩ : ∃ I : Int, (i : Int) = I := ⟨_, rfl⟩
            have p1 : 0 ≤ I := by omega
            have q1 : I < (arrs.length : Int) := by omega
            have c1_ : decide (I < (arrs.length : Int)) = true := decide_eq_true q1
            obtain ⟨ad, rfl, x0, x1, x2⟩ := at_T33 (Kd.C_below hA (HS.old 3 rfl)) I p1 q1
            have hrd : rd_T33 arrs I = arrs[i] := by rw [← hI_]; unfold rd_T33; rw [Int.toNat_natCast, List.getD_eq_getElem?_getD, List.getElem?_eq_getElem hk]; rfl
            obtain ⟨l0, l1, l2, l3⟩ := HL.out _ (List.getElem_mem hk)
            rw [← hrd] at l0 l1 l2 l3
            have HT := Aside0.mk (show arrs.take (i + 1) = arrs.take i ++ [rd_T33 arrs I] by rw [hrd]; exact List.take_succ_eq_append_getElem hk)
            have HD := Aside0.mk (show arrs.drop i = rd_T33 arrs I :: arrs.drop (i + 1) by rw [hrd]; exact List.drop_eq_getElem_cons hk)
            have HW := Aside0.mk (show rd_L2 (wordsF arrs M) I = wordsOf M (rd_T33 arrs I) by rw [hrd]; unfold rd_L2 wordsF; rw [← hI_, Int.toNat_natCast, List.getD_eq_getElem?_getD, List.getElem?_map, List.getElem?_eq_getElem hk]; rfl)
            rw [hI_]
            have HII := Aside0.mk hI_
            clear hI_ hrd hk
            have r1 := eq_true p1
            have r2 := eq_true q1
            obtain ⟨r, hr⟩ : ∃ r, r = rd_T33 arrs I := ⟨_, rfl⟩
            rw [← hr] at x0 x1 x2 l0 l1 l2 l3 HT HD HW
            clear hr
            obtain ⟨f0, f1, f2⟩ := r
            dsimp only at x0 x1 x2 l0 l1 l2 l3
            have hAS : Aside0 (asks (arrs.take (i + 1)) = asks (arrs.take i) + (if f2 = 0 then 0 else 1)) := ⟨by rw [HT.out]; unfold asks; rw [List.filter_append, List.length_append]; by_cases h : f2 = 0 <;> simp [h]⟩
            have hCc : Aside0 (Chain 0 (arrs.take (i + 1)) (f0 + f1) ∧ Chain (f0 + f1) (arrs.drop (i + 1)) fin ∧ f0 = e) := ⟨by
              have h1 := HJ.out.2.2.1
              have h2 := HJ.out.2.2.2
              rw [HD.out] at h2
              obtain ⟨g1, g2, g3, g4⟩ := h2
              dsimp only at g1 g4
              refine ⟨?_, by rw [g1]; exact g4, g1⟩
              rw [HT.out]
              exact chain_snoc h1 g1 l1 l2⟩
            have hST : Aside0 (∀ j : Nat, (j : Int) < f1 → rd M (f0 + j) = wantF ins ⟨f0, f1, f2⟩ (asks (arrs.take i)) j) := ⟨fun j hj => by
              have h := start_at ins (arrs.take i) (arrs.drop (i + 1)) ⟨f0, f1, f2⟩ me fin (by rw [← HD.out, List.take_append_drop]; exact HCH.out) (by omega) j hj
              rw [← HD.out, List.take_append_drop, ← HMM.out] at h
              exact h⟩
            have hfl : f0 + f1 ≤ (M.length : Int) := by have := HMLL.out; omega
            obtain ⟨q, hq⟩ : ∃ q, asks (arrs.take i) = q := ⟨_, rfl⟩
            rw [hq] at hAS hST ⊢
            have hQB : Aside0 (q ≤ 1000) := ⟨by rw [← hq]; unfold asks; have := List.length_filter_le (fun a : S33 => decide (a.f2 ≠ 0)) (arrs.take i); rw [List.length_take] at this; omega⟩
            clear hq
            go_upto_region 20 with (first | ((with_reducible refine gate_dst (N := 12) rfl ?_); go_must (refine ev_box HS rfl (N := 12) rfl (cs := #[.int .i64 0, .int .i64 0, .int .i64 0]) (t := 33) ?hrun ?_); (case hrun => first | (go_simp; done) | (go_simp; rfl)); clear HS; intro ga w HS) | ((with_reducible refine gate_store (t := 33) (p := 12) rfl ?_); go_must (refine ev_store HS 0 rfl rfl 33 (.tmp 12) (.tmp 80) rfl rfl rfl [.int .i64 f0, .int .i64 f1, .int .i64 f2] ?hx (by kernel_rfl) (by rfl) ?h1 ?_); (case hx => first | rfl | (go_simp; done)); (case h1 => simp [Value.oneCell']); clear HS; intro w HS))
            go_upto_region 21 with ((with_reducible refine gate_dst (N := 81) rfl ?_); go_must (refine ev_lit IW (e := 2) HS rfl (N := 81) rfl (xs := ([] : List Int)) (inner := []) ?hrun (Reps.none _ _) (by first | decide | simp) ?_); (case hrun => first | (go_simp; done) | (go_simp; rfl)); clear HS; intro gl w HS)
            have ci_ := HS.cell 1 rfl
            obtain ⟨n1, hn1⟩ : ∃ n1, f1.toNat = n1 := ⟨_, rfl⟩
            have HN1 := Aside0.mk (show (wordsOf M ⟨f0, f1, f2⟩).length = n1 by rw [wordsOf_length]; exact hn1)
            have HN2 := Aside0.mk (show (n1 : Int) = f1 by omega)
            have hfe : ((n1 : Int) != f1) = false := by rw [HN2.out]; exact bne_self_eq_false f1
            have hq20 : Aside0 (q ≤ 1000) := hQB
            clear hn1
            by_cases hh : f2 = 0
            · have hhb : (f2 != 0) = false := by rw [hh]; rfl
              have HH := Aside0.mk hh
              go_upto_region 25 with (fail)
              have ci_ := HS.cell 1 rfl
              obtain ⟨ad2, A2, c2, e2, y0, _, hC2⟩ := at_L2 (HS.C 2 rfl) I p1 q1
              cases e2
              rw [HW.out, HN1.out] at y0
              rw [HW.out, HN1.out] at hC2
              go_wp2
              go_still_tail 7, (by kernel_rfl)
              (replace HS := HS.drew; (first | show Exit.then _ _ _ _ (World.drew w) | show wpList _ _ _ _ _ (World.drew w)); generalize World.drew w = w at HS ⊢)
              clear ci_ y0 hC2
              have ci_ := HS.cell 1 rfl
              obtain ⟨ad2, A2, c2, e2, y0, _, hC2⟩ := at_L2 (HS.C 2 rfl) I p1 q1
              cases e2
              rw [HW.out, HN1.out] at y0
              rw [HW.out, HN1.out] at hC2
              obtain ⟨HXM⟩ : Nonempty (Aside0 (IW.C w Ap M.length M)) := ⟨⟨HS.C 3 rfl⟩⟩
              have HXW := Aside0.mk hC2
              clear hC2
              go_wp2
              go_loop [14] (fun v14 => ∃ j : Nat, (j : Int) ≤ f1 ∧ v14 = .int .i64 (j : Int)) (fun v14 => f1.toNat - (intOf v14).toNat)
              case atStart => exact ⟨0, by omega, rfl⟩
              case round =>
                obtain ⟨j, hj, rfl⟩ := hrel
                obtain ⟨J, hJ_⟩ : ∃ J : Int, (j : Int) = J := ⟨_, rfl⟩
                rw [hJ_]
                have HJJ := Aside0.mk hJ_
                by_cases hjl : J < f1
                · have hJb : decide (J < f1) = true := decide_eq_true hjl
                  have hV := hST.out j (by omega)
                  rw [hJ_] at hV
                  have hv2 := words_at M ⟨f0, f1, f2⟩ l0 j (by dsimp only; omega)
                  dsimp only at hv2
                  rw [hJ_, if_pos (show f0 + J < (M.length : Int) by omega), hV] at hv2
                  have t0 : 0 ≤ f0 + J := by omega
                  have t1 : f0 + J < (M.length : Int) := by omega
                  have t2 : 0 ≤ J := by omega
                  have t3 : J < (n1 : Int) := by have := HN2.out; omega
                  obtain ⟨am, em, z0⟩ := Kd.at_int HXM.out (f0 + J) t0 t1
                  cases em
                  obtain ⟨aw, ew, z1⟩ := Kd.at_int HXW.out J t2 t3
                  cases ew
                  rw [hV] at z0
                  rw [hv2] at z1
                  have hwr : wrap64 (f0 + J) = f0 + J := w64 _ (by omega) (by omega)
                  have hwj : wrap64 (J + 1) = J + 1 := w64 _ (by omega) (by omega)
                  have u0 := eq_true t0
                  have u1 := eq_true t1
                  have u2 := eq_true t2
                  have u3 := eq_true t3
                  clear hJ_ hV hv2 t0 t1 hjl
                  have hQ : wantF ins ⟨f0, f1, f2⟩ q j = 0 := by
                    unfold wantF
                    rw [if_neg (fun h => h.1 hh)]
                  rw [hQ] at z0 z1
                  have hwb : decide (J < 0) = false := decide_eq_false (by omega)
                  go_wp2
                  go_round
                  case rel => exact ⟨j + 1, by have := HJJ.out; have := of_decide_eq_true hJb; omega, by have := HJJ.out; congr 1; push_cast; omega⟩
                  case measure => simp only [intOf]; have := HJJ.out; have := of_decide_eq_true hJb; omega
                · have hJe : J = f1 := by omega
                  have hJb : decide (J < f1) = false := decide_eq_false hjl
                  clear hJ_ hjl hJe
                  have hwr : wrap64 (f0 + f1) = f0 + f1 := w64 _ (by omega) (by omega)
                  go_wp2
                  go_roundg k1
                  case measure => have := HJ.out; omega
                  case rel =>
                    refine ⟨i + 1, f0 + f1, ?_, rfl, ?_, ⟨by have := HII.out; omega, by have := HJ.out; omega, hCc.out.1, hCc.out.2.1⟩, ⟨HS.pick [2, 3, 4, 5] (by decide)⟩⟩
                    · rw [hAS.out]; rw [if_pos hh]; rfl
                    · rw [← HII.out]; rfl
            · have hhb : (f2 != 0) = true := bne_iff_ne.mpr hh
              have hwq : wrap64 ((q : Int) + 1) = (q : Int) + 1 := w64 _ (by omega) (by have := hq20.out; omega)
              by_cases hqn : q < ins.length
              · obtain ⟨Qi, hQ_⟩ : ∃ Qi : Int, (q : Int) = Qi := ⟨_, rfl⟩
                have qi0 : 0 ≤ Qi := by omega
                have qi1 : Qi < (ins.length : Int) := by omega
                have hqb : decide (Qi < (ins.length : Int)) = true := decide_eq_true qi1
                have HQ := Aside0.mk (And.intro hQ_ hqn)
                rw [hQ_] at hwq ⊢
                clear hQ_
                obtain ⟨adq, AW3, cW3, e3, zq, _, hCq⟩ := at_L2 (Kd.C_below hI (HS.old 5 rfl)) Qi qi0 qi1
                cases e3
                have HCW := Aside0.mk hCq
                clear hCq
                have v0 := eq_true qi0
                have v1 := eq_true qi1
                go_upto_region 25 with (fail)
                have ci_ := HS.cell 1 rfl
                obtain ⟨ad2, A2, c2, e2, y0, _, hC2⟩ := at_L2 (HS.C 2 rfl) I p1 q1
                cases e2
                rw [HW.out, HN1.out] at y0
                rw [HW.out, HN1.out] at hC2
                go_wp2
                go_still_tail 7, (by kernel_rfl)
                replace HS := HS.drew
                replace HCW := Aside0.mk (Kd.C_drew HCW.out)
                (first | show Exit.then _ _ _ _ (World.drew w) | show wpList _ _ _ _ _ (World.drew w))
                generalize World.drew w = w at HS HCW ⊢
                clear ci_ y0 hC2
                have ci_ := HS.cell 1 rfl
                obtain ⟨ad2, A2, c2, e2, y0, _, hC2⟩ := at_L2 (HS.C 2 rfl) I p1 q1
                cases e2
                rw [HW.out, HN1.out] at y0
                rw [HW.out, HN1.out] at hC2
                have hCW := HCW.out
                obtain ⟨HXM⟩ : Nonempty (Aside0 (IW.C w Ap M.length M)) := ⟨⟨HS.C 3 rfl⟩⟩
                have HXW := Aside0.mk hC2
                clear hC2
                go_wp2
                go_loop [14] (fun v14 => ∃ j : Nat, (j : Int) ≤ f1 ∧ v14 = .int .i64 (j : Int)) (fun v14 => f1.toNat - (intOf v14).toNat)
                case atStart => exact ⟨0, by omega, rfl⟩
                case round =>
                  obtain ⟨j, hj, rfl⟩ := hrel
                  obtain ⟨J, hJ_⟩ : ∃ J : Int, (j : Int) = J := ⟨_, rfl⟩
                  rw [hJ_]
                  have HJJ := Aside0.mk hJ_
                  by_cases hjl : J < f1
                  · have hJb : decide (J < f1) = true := decide_eq_true hjl
                    have hV := hST.out j (by omega)
                    rw [hJ_] at hV
                    have hv2 := words_at M ⟨f0, f1, f2⟩ l0 j (by dsimp only; omega)
                    dsimp only at hv2
                    rw [hJ_, if_pos (show f0 + J < (M.length : Int) by omega), hV] at hv2
                    have t0 : 0 ≤ f0 + J := by omega
                    have t1 : f0 + J < (M.length : Int) := by omega
                    have t2 : 0 ≤ J := by omega
                    have t3 : J < (n1 : Int) := by have := HN2.out; omega
                    obtain ⟨am, em, z0⟩ := Kd.at_int HXM.out (f0 + J) t0 t1
                    cases em
                    obtain ⟨aw, ew, z1⟩ := Kd.at_int HXW.out J t2 t3
                    cases ew
                    rw [hV] at z0
                    rw [hv2] at z1
                    have hwr : wrap64 (f0 + J) = f0 + J := w64 _ (by omega) (by omega)
                    have hwj : wrap64 (J + 1) = J + 1 := w64 _ (by omega) (by omega)
                    have u0 := eq_true t0
                    have u1 := eq_true t1
                    have u2 := eq_true t2
                    have u3 := eq_true t3
                    clear hJ_ hV hv2 t0 t1 hjl
                    by_cases hw : J < ((rd_L2 ins Qi).length : Int)
                    · have hwb : decide (J < ((rd_L2 ins Qi).length : Int)) = true := decide_eq_true hw
                      obtain ⟨ai, ei, z2⟩ := Kd.at_int hCW J t2 hw
                      cases ei
                      have hQ : wantF ins ⟨f0, f1, f2⟩ q j = rd (rd_L2 ins Qi) J := by
                        unfold wantF
                        rw [if_pos ⟨hh, HQ.out.2⟩]
                        unfold rd rd_L2
                        rw [← HJJ.out, ← HQ.out.1, Int.toNat_natCast, Int.toNat_natCast]
                      rw [hQ] at z0 z1
                      have u4 := eq_true hw
                      go_wp2
                      go_round
                      case rel => exact ⟨j + 1, by have := HJJ.out; have := of_decide_eq_true hJb; omega, by have := HJJ.out; congr 1; push_cast; omega⟩
                      case measure => simp only [intOf]; have := HJJ.out; have := of_decide_eq_true hJb; omega
                    · have hwb : decide (J < ((rd_L2 ins Qi).length : Int)) = false := decide_eq_false hw
                      have hQ : wantF ins ⟨f0, f1, f2⟩ q j = 0 := by
                        unfold wantF
                        rw [if_pos ⟨hh, HQ.out.2⟩, List.getD_eq_getElem?_getD, List.getElem?_eq_none (by unfold rd_L2 at hw; rw [← HQ.out.1, Int.toNat_natCast] at hw; have := HJJ.out; omega)]
                        rfl
                      rw [hQ] at z0 z1
                      go_wp2
                      go_round
                      case rel => exact ⟨j + 1, by have := HJJ.out; have := of_decide_eq_true hJb; omega, by have := HJJ.out; congr 1; push_cast; omega⟩
                      case measure => simp only [intOf]; have := HJJ.out; have := of_decide_eq_true hJb; omega
                  · have hJe : J = f1 := by omega
                    have hJb : decide (J < f1) = false := decide_eq_false hjl
                    clear hJ_ hjl hJe
                    have hwr : wrap64 (f0 + f1) = f0 + f1 := w64 _ (by omega) (by omega)
                    go_wp2
                    go_roundg k1
                    case measure => have := HJ.out; omega
                    case rel =>
                      refine ⟨i + 1, f0 + f1, ?_, rfl, ?_, ⟨by have := HII.out; omega, by have := HJ.out; omega, hCc.out.1, hCc.out.2.1⟩, ⟨HS.pick [2, 3, 4, 5] (by decide)⟩⟩
                      · rw [hAS.out]; rw [if_neg hh, ← HQ.out.1]; rfl
                      · rw [← HII.out]; rfl
              · have hqb : decide ((q : Int) < (ins.length : Int)) = false := decide_eq_false (by omega)
                go_upto_region 25 with (fail)
                have ci_ := HS.cell 1 rfl
                obtain ⟨ad2, A2, c2, e2, y0, _, hC2⟩ := at_L2 (HS.C 2 rfl) I p1 q1
                cases e2
                rw [HW.out, HN1.out] at y0
                rw [HW.out, HN1.out] at hC2
                go_wp2
                go_still_tail 7, (by kernel_rfl)
                (replace HS := HS.drew; (first | show Exit.then _ _ _ _ (World.drew w) | show wpList _ _ _ _ _ (World.drew w)); generalize World.drew w = w at HS ⊢)
                clear ci_ y0 hC2
                have ci_ := HS.cell 1 rfl
                obtain ⟨ad2, A2, c2, e2, y0, _, hC2⟩ := at_L2 (HS.C 2 rfl) I p1 q1
                cases e2
                rw [HW.out, HN1.out] at y0
                rw [HW.out, HN1.out] at hC2
                obtain ⟨HXM⟩ : Nonempty (Aside0 (IW.C w Ap M.length M)) := ⟨⟨HS.C 3 rfl⟩⟩
                have HXW := Aside0.mk hC2
                clear hC2
                go_wp2
                go_loop [14] (fun v14 => ∃ j : Nat, (j : Int) ≤ f1 ∧ v14 = .int .i64 (j : Int)) (fun v14 => f1.toNat - (intOf v14).toNat)
                case atStart => exact ⟨0, by omega, rfl⟩
                case round =>
                  obtain ⟨j, hj, rfl⟩ := hrel
                  obtain ⟨J, hJ_⟩ : ∃ J : Int, (j : Int) = J := ⟨_, rfl⟩
                  rw [hJ_]
                  have HJJ := Aside0.mk hJ_
                  by_cases hjl : J < f1
                  · have hJb : decide (J < f1) = true := decide_eq_true hjl
                    have hV := hST.out j (by omega)
                    rw [hJ_] at hV
                    have hv2 := words_at M ⟨f0, f1, f2⟩ l0 j (by dsimp only; omega)
                    dsimp only at hv2
                    rw [hJ_, if_pos (show f0 + J < (M.length : Int) by omega), hV] at hv2
                    have t0 : 0 ≤ f0 + J := by omega
                    have t1 : f0 + J < (M.length : Int) := by omega
                    have t2 : 0 ≤ J := by omega
                    have t3 : J < (n1 : Int) := by have := HN2.out; omega
                    obtain ⟨am, em, z0⟩ := Kd.at_int HXM.out (f0 + J) t0 t1
                    cases em
                    obtain ⟨aw, ew, z1⟩ := Kd.at_int HXW.out J t2 t3
                    cases ew
                    rw [hV] at z0
                    rw [hv2] at z1
                    have hwr : wrap64 (f0 + J) = f0 + J := w64 _ (by omega) (by omega)
                    have hwj : wrap64 (J + 1) = J + 1 := w64 _ (by omega) (by omega)
                    have u0 := eq_true t0
                    have u1 := eq_true t1
                    have u2 := eq_true t2
                    have u3 := eq_true t3
                    clear hJ_ hV hv2 t0 t1 hjl
                    have hQ : wantF ins ⟨f0, f1, f2⟩ q j = 0 := by
                      unfold wantF
                      rw [if_neg (fun h => hqn h.2)]
                    rw [hQ] at z0 z1
                    have hwb : decide (J < 0) = false := decide_eq_false (by omega)
                    go_wp2
                    go_round
                    case rel => exact ⟨j + 1, by have := HJJ.out; have := of_decide_eq_true hJb; omega, by have := HJJ.out; congr 1; push_cast; omega⟩
                    case measure => simp only [intOf]; have := HJJ.out; have := of_decide_eq_true hJb; omega
                  · have hJe : J = f1 := by omega
                    have hJb : decide (J < f1) = false := decide_eq_false hjl
                    clear hJ_ hjl hJe
                    have hwr : wrap64 (f0 + f1) = f0 + f1 := w64 _ (by omega) (by omega)
                    go_wp2
                    go_roundg k1
                    case measure => have := HJ.out; omega
                    case rel =>
                      refine ⟨i + 1, f0 + f1, ?_, rfl, ?_, ⟨by have := HII.out; omega, by have := HJ.out; omega, hCc.out.1, hCc.out.2.1⟩, ⟨HS.pick [2, 3, 4, 5] (by decide)⟩⟩
                      · rw [hAS.out]; rw [if_neg hh]; rfl
                      · rw [← HII.out]; rfl
          · have hkk : i = arrs.length := by have := HJ.out.1; omega
            subst hkk
            have hkb : decide (arrs.length < arrs.length) = false := decide_eq_false (Nat.lt_irrefl _)
            have hch2 : Chain 0 arrs e := by have := HJ.out.2.2.1; rwa [List.take_length] at this
            have he0 := Chain.le hch2
            have hef : e = fin := by have := HJ.out.2.2.2; rw [List.drop_length] at this; exact this
            have heM : e ≤ (M.length : Int) := by have := HMLL.out; omega
            have HEF := Aside0.mk hef
            clear hef
            have HZ : Aside0 (∀ p : Int, e ≤ p → p < me → rd M p = 0) := ⟨fun p h0 h1 => by rw [HMM.out]; exact start_end ins arrs me e hch2 p h0 h1⟩
            obtain ⟨i0, hi0, _, hsz, _⟩ := info_parts info2
            have hcut := cut_from (P := Try.prog) 37 2 .i64 Try.underlying37 hi0 1 hsz Ap M.length cp e he0 heM
            have hCD := Kd.C_drop (m := e.toNat) (c := cp) (HS.C 1 rfl) (by omega) hcp
            rw [show IW.sz = 1 from rfl, show (M.drop e.toNat).length = M.length - e.toNat from List.length_drop] at hCD
            obtain ⟨A', hA'⟩ : ∃ A', A' = (if cp = e.toNat then Ap else Ap.map (fun x => x.add (e.toNat * 1))) := ⟨_, rfl⟩
            rw [← hA'] at hcut hCD
            have HCD := Aside0.mk hCD
            obtain ⟨ln, hln⟩ : ∃ ln, ln = M.length - e.toNat := ⟨_, rfl⟩
            rw [← hln] at hcut HCD
            have HLN := Aside0.mk hln
            clear hCD hA' hln hch2
            go_wp2
            go_loop [17, 147] (fun _ v147 => ∃ j : Nat, j ≤ ln ∧ v147 = .int .i64 (j : Int)) (fun _ v147 => ln - (intOf v147).toNat)
            case atStart => exact ⟨0, Nat.zero_le _, rfl⟩
            case round =>
              obtain ⟨j, hj, rfl⟩ := hrel
              by_cases hjl : j < ln
              · obtain ⟨J, hJ_⟩ : ∃ J : Int, (j : Int) = J := ⟨_, rfl⟩
                have t0 : 0 ≤ J := by omega
                have t1 : J < (ln : Int) := by omega
                have hJb : decide (J < (ln : Int)) = true := decide_eq_true t1
                obtain ⟨az, ez, z0⟩ := Kd.at_int HCD.out J t0 t1
                cases ez
                have hv : rd (M.drop e.toNat) J = 0 := by
                  have := HZ.out (e + J) (by omega) (by have := HLN.out; have := HMLL.out; omega)
                  unfold rd at this ⊢
                  rw [List.getD_eq_getElem?_getD] at this ⊢
                  rw [List.getElem?_drop, show e.toNat + J.toNat = (e + J).toNat by omega]
                  exact this
                rw [hv] at z0
                have hwj : wrap64 (J + 1) = J + 1 := w64 _ (by omega) (by have := HLN.out; have := HMLL.out; omega)
                have HJJ := Aside0.mk hJ_
                rw [hJ_]
                have u0 := eq_true t0
                have u1 := eq_true t1
                clear hJ_ hv
                go_wp2
                go_round
                case rel => exact ⟨j + 1, by omega, by have := HJJ.out; congr 1; push_cast; omega⟩
                case measure => simp only [intOf]; have := HJJ.out; omega
              · have hjj : j = ln := by omega
                subst hjj
                have hjb : decide (j < j) = false := decide_eq_false (Nat.lt_irrefl _)
                clear hcut
                go_wp2
                go_loopg [18, 156] (M.length + 1) (fun kq v18 v156 w' => ∃ (b : Nat) (m : List Int), v156 = .int .i64 (b : Int) ∧ Aside0 (b ≤ M.length ∧ M.length + 1 ≤ kq + b ∧ m.length = M.length ∧ ∀ p : Nat, p < b → rd m (p : Int) = (p : Int) + 5) ∧
                    Aside0 (Sat W w' [row (Kd.slice 2 IW) 37 (.slice Aw arrs.length cw) (wordsF arrs M), row IW 2 (.slice Ap M.length cp) m, blk gb 30 #[.slice Ac code.length cc, .slice Aa arrs.length ca, .int .i64 st, .int .i64 me], old W]))
                case atStart => exact ⟨0, M, rfl, ⟨by omega, by omega, rfl, fun p hp => by omega⟩, ⟨HS⟩⟩
                case round =>
                  clear HS cb
                  obtain ⟨b, m, rfl, HB, HS'⟩ := hrel
                  have HS := HS'.out
                  clear HS'
                  cases gk with
                  | zero => have := HB.out; omega
                  | succ k2 =>
                    by_cases hbl : b < M.length
                    · obtain ⟨J, hJ_⟩ : ∃ J : Int, (b : Int) = J := ⟨_, rfl⟩
                      have t0 : 0 ≤ J := by omega
                      have t1 : J < (M.length : Int) := by omega
                      have hJb : decide (J < (M.length : Int)) = true := decide_eq_true t1
                      have hM2 : M.length ≤ 20000 := by have := HMLL.out; omega
                      have h5 : wrap64 (J + 5) = J + 5 := w64 _ (by omega) (by omega)
                      have hwj : wrap64 (J + 1) = J + 1 := w64 _ (by omega) (by omega)
                      obtain ⟨gq, rfl, hcell, hfr, hset⟩ := Sat.word HS 1 rfl J t0 (by have := HB.out; omega)
                      have HJJ := Aside0.mk hJ_
                      rw [hJ_]
                      have u0 := eq_true t0
                      have u1 := eq_true t1
                      have HT1 := Aside0.mk t1
                      clear hJ_ hbl
                      go_upto_region 47 with (fail)
                      refine wp_sat (hset (J + 5)) (fun w HS => ?_)
                      clear hcell hfr hset
                      go_wp2
                      go_roundg k2
                      case measure => have := HB.out; omega
                      case rel =>
                        refine ⟨b + 1, m.set J.toNat (J + 5), by rw [← HJJ.out]; rfl, ⟨by have := HJJ.out; have := HT1.out; omega, by have := HB.out; omega, by rw [List.length_set]; exact HB.out.2.2.1, fun p hp => ?_⟩, ⟨HS⟩⟩
                        unfold rd
                        rw [List.getD_eq_getElem?_getD]
                        by_cases e2 : p = b
                        · subst e2
                          rw [HJJ.out, List.getElem?_set_self (by have := HB.out; have := HT1.out; have := HJJ.out; omega)]
                          rfl
                        · rw [List.getElem?_set_ne (by have := HJJ.out; omega)]
                          have := HB.out.2.2.2 p (by omega)
                          unfold rd at this
                          rwa [List.getD_eq_getElem?_getD] at this
                    · have hbb : b = M.length := by have := HB.out.1; omega
                      subst hbb
                      have hbk : decide (M.length < M.length) = false := decide_eq_false (Nat.lt_irrefl _)
                      go_upto_region 48 with (fail)
                      have hmL := HB.out.2.2.1
                      have HBB := Aside0.mk HB.out.2.2.2
                      obtain ⟨half, hhalf⟩ : ∃ half, half = (M.length : Int) / 2 := ⟨_, rfl⟩
                      obtain ⟨hf0, hf1⟩ : 0 ≤ half ∧ half ≤ (M.length : Int) := by omega
                      have hcut := cut_to (P := Try.prog) 37 2 .i64 Try.underlying37 hi0 Ap M.length cp half hf0 hf1 hcp
                      have hw2 : wrap64 half = half := w64 _ (by omega) (by have := HMLL.out; omega)
                      have hd2 : (M.length : Int) / 2 = half := hhalf.symm
                      have hdv : Int.tdiv (M.length : Int) 2 = half := by rw [hhalf]; exact Int.tdiv_eq_ediv_of_nonneg (by omega)
                      obtain ⟨mt, hmt⟩ : ∃ mt, mt = m.take half.toNat := ⟨_, rfl⟩
                      have hmtl : mt.length = half.toNat := by rw [hmt, List.length_take]; omega
                      have HMT := Aside0.mk (show ∀ w, Sat W w (row (Kd.slice 2 IW) 37 (.slice Aw arrs.length cw) (wordsF arrs M) :: [row IW 2 (.slice Ap M.length cp) m, blk gb 30 #[.slice Ac code.length cc, .slice Aa arrs.length ca, .int .i64 st, .int .i64 me], old W]) → IW.C w Ap mt.length mt from fun w h => by
                        have h1 := h.C 1 rfl
                        rw [← hmL] at h1
                        rw [hmt]
                        exact Kd.C_take h1 (by omega))
                      have HF5 : Aside0 (∀ p : Int, 0 ≤ p → p < half → rd mt p = p + 5) := ⟨fun p h0 h1 => by
                        have h2 := HBB.out p.toNat (by omega)
                        rw [show ((p.toNat : Nat) : Int) = p by omega] at h2
                        unfold rd at h2 ⊢
                        rw [List.getD_eq_getElem?_getD] at h2 ⊢
                        rw [hmt, List.getElem?_take, if_pos (by omega)]
                        exact h2⟩
                      have HHF := Aside0.mk hhalf
                      have HMLE := Aside0.mk hmtl
                      clear hmt hhalf hmL HBB
                      refine start_ (n := 8) (S := fun w' => ∃ L', Sat W w' (blk gb 30 #[.slice Ac code.length cc, .slice Aa arrs.length ca, .int .i64 st, .int .i64 me] :: L')) (ds := []) #[false, false, false, false, false, false, false, false] (by kernel_rfl) rfl rfl ⟨_, HS.drew.front 2 rfl⟩ (fun hHeld => ?_)
                      replace HS := HS.drew
                      generalize World.drew wr = w at HS hHeld ⊢
                      refine take_ (i := 0) (N := some 165) (v := ?_) (a' := ?_) #[true, false, false, false, false, false, false, false] rfl rfl (by kernel_rfl) (fun _ _ _ h => h) (Or.inl ⟨by rfl, ?_⟩) hHeld ?_ ?_
                      rotate_left
                      · rintro w' ⟨L', hS⟩
                        have cb := hS.cell 0 rfl
                        go_simp
                        with_reducible rfl
                      rotate_left
                      · (try simp only [Act.put, List.setIfInBounds_toArray, List.set_cons_zero, List.set_cons_succ, i64_w, i32_w])
                        rfl
                      refine pure_ (i := 1) (N := some 166) (v := ?_) (a' := ?_) #[true, true, false, false, false, false, false, false] rfl rfl (by kernel_rfl) (fun _ _ _ h => h) (Or.inl ⟨by rfl, ?_⟩) ?_ ?_
                      rotate_left
                      · intro w'
                        go_simp
                        with_reducible rfl
                      rotate_left
                      · (try simp only [Act.put, List.setIfInBounds_toArray, List.set_cons_zero, List.set_cons_succ, i64_w, i32_w])
                        rfl
                      refine pure_ (i := 2) (N := some 167) (v := ?_) (a' := ?_) #[true, true, true, false, false, false, false, false] rfl rfl (by kernel_rfl) (fun _ _ _ h => h) (Or.inl ⟨by rfl, ?_⟩) ?_ ?_
                      rotate_left
                      · intro w'
                        go_simp
                        with_reducible rfl
                      rotate_left
                      · (try simp only [Act.put, List.setIfInBounds_toArray, List.set_cons_zero, List.set_cons_succ, i64_w, i32_w])
                        rfl
                      refine pure_ (i := 3) (N := some 168) (v := ?_) (a' := ?_) #[true, true, true, true, false, false, false, false] rfl rfl (by kernel_rfl) (fun _ _ _ h => h) (Or.inl ⟨by rfl, ?_⟩) ?_ ?_
                      rotate_left
                      · intro w'
                        go_simp
                        with_reducible rfl
                      rotate_left
                      · (try simp only [Act.put, List.setIfInBounds_toArray, List.set_cons_zero, List.set_cons_succ, i64_w, i32_w])
                        rfl
                      refine pure_ (i := 4) (N := some 169) (v := ?_) (a' := ?_) #[true, true, true, true, true, false, false, false] rfl rfl (by kernel_rfl) (fun _ _ _ h => h) (Or.inl ⟨by rfl, ?_⟩) ?_ ?_
                      rotate_left
                      · intro w'
                        go_simp
                        with_reducible rfl
                      rotate_left
                      · (try simp only [Act.put, List.setIfInBounds_toArray, List.set_cons_zero, List.set_cons_succ, i64_w, i32_w])
                        rfl
                      refine pure_ (i := 5) (N := some 170) (v := ?_) (a' := ?_) #[true, true, true, true, true, true, false, false] rfl rfl (by kernel_rfl) (fun _ _ _ h => h) (Or.inl ⟨by rfl, ?_⟩) ?_ ?_
                      rotate_left
                      · intro w'
                        go_simp
                        with_reducible rfl
                      rotate_left
                      · (try simp only [Act.put, List.setIfInBounds_toArray, List.set_cons_zero, List.set_cons_succ, i64_w, i32_w])
                        rfl
                      have HR2 := Aside0.mk (words_calls (Ac := Ac) (nc := code.length) (cc := cc) (ca := ca) (st := st) (me := me) (Am := Ap) (cm := cp) (mem := mt) (fun w h => Kd.C_below hA (h.old 3 rfl)) HMT.out (by have := HMLE.out; omega) (by have := HMLE.out; have := HMLL.out; omega) (fun a ha => ⟨(HL.out a ha).at0, (HL.out a ha).sz1, (HL.out a ha).sz2⟩) hal HS)
                      clear HS
                      rw [HMLE.out] at HR2
                      refine one_ (i := 6) (N := some 171) #[true, true, true, true, true, true, true, false] rfl rfl (by kernel_rfl) (by decide) (fun K hK => ?_)
                      refine goes_ Try.func12 (by kernel_rfl) rfl #[.agg #[.slice Ac code.length cc, .slice Aa arrs.length ca, .int .i64 st, .int .i64 me], .slice Ap half.toNat cp] (by rfl) rfl rfl (by (try simp only [List.map_toArray, List.map_cons, List.map_nil]); first | done | rfl) ?_
                      refine HR2.out.mono ?_
                      clear HR2
                      rintro e w ⟨v, rfl, HS⟩
                      obtain ⟨As, cs, rfl⟩ := HS.slice 0 rfl
                      have hWL2 : (wordsF arrs mt).length = arrs.length := List.length_map _
                      rw [hWL2] at HS ⊢
                      clear hWL2
                      refine ⟨_, rfl, ?_⟩
                      refine hK.out _ _ ⟨_, HS.front 3 rfl⟩ (fun hHeld => ?_)
                      clear hK K
                      refine norm_ (a' := ?_) ?_ ?_
                      rotate_left
                      · show Act.put _ _ _ = _
                        (try simp only [Act.put, List.setIfInBounds_toArray, List.set_cons_zero, List.set_cons_succ, i64_w, i32_w])
                        rfl
                      refine pure_ (i := 7) (N := some 19) (v := ?_) (a' := ?_) #[true, true, true, true, true, true, true, true] rfl rfl (by kernel_rfl) (fun _ _ _ h => h) (Or.inl ⟨by rfl, ?_⟩) ?_ ?_
                      rotate_left
                      · intro w'
                        go_simp
                        with_reducible rfl
                      rotate_left
                      · (try simp only [Act.put, List.setIfInBounds_toArray, List.set_cons_zero, List.set_cons_succ, i64_w, i32_w])
                        rfl
                      refine done_ (by kernel_rfl) ?_
                      clear hHeld hcut
                      rw [hw2]
                      replace HS := HS.pick [0, 3, 4] (by decide)
                      have cb := HS.cell 1 rfl
                      go_wp2
                      go_loopg [175] (arrs.length + 1) (fun kq v175 w' => ∃ i : Nat, v175 = .int .i64 (i : Int) ∧ Aside0 (i ≤ arrs.length ∧ arrs.length + 1 ≤ kq + i) ∧
                          Aside0 (Sat W w' [row (Kd.slice 2 IW) 37 (.slice As arrs.length cs) (wordsF arrs mt), blk gb 30 #[.slice Ac code.length cc, .slice Aa arrs.length ca, .int .i64 st, .int .i64 me], old W]))
                      case atStart => exact ⟨0, rfl, ⟨by omega, by omega⟩, ⟨HS⟩⟩
                      case round =>
                        clear HS cb
                        obtain ⟨i, rfl, HJ2, HS'⟩ := hrel
                        have HS := HS'.out
                        clear HS'
                        cases gk with
                        | zero => have := HJ2.out; omega
                        | succ k3 =>
                          have cb := HS.cell 1 rfl
                          by_cases hk : i < arrs.length
                          · obtain ⟨I, hI_⟩ : ∃ I : Int, (i : Int) = I := ⟨_, rfl⟩
                            have p1 : 0 ≤ I := by omega
                            have q1 : I < (arrs.length : Int) := by omega
                            have c1_ : decide (I < (arrs.length : Int)) = true := decide_eq_true q1
                            obtain ⟨ad, rfl, x0, x1, x2⟩ := at_T33 (Kd.C_below hA (HS.old 2 rfl)) I p1 q1
                            have hrd : rd_T33 arrs I = arrs[i] := by rw [← hI_]; unfold rd_T33; rw [Int.toNat_natCast, List.getD_eq_getElem?_getD, List.getElem?_eq_getElem hk]; rfl
                            obtain ⟨l0, l1, l2, l3⟩ := HL.out _ (List.getElem_mem hk)
                            rw [← hrd] at l0 l1 l2 l3
                            have HW := Aside0.mk (show rd_L2 (wordsF arrs mt) I = wordsOf mt (rd_T33 arrs I) by rw [hrd]; unfold rd_L2 wordsF; rw [← hI_, Int.toNat_natCast, List.getD_eq_getElem?_getD, List.getElem?_map, List.getElem?_eq_getElem hk]; rfl)
                            rw [hI_]
                            have HII := Aside0.mk hI_
                            clear hI_ hrd hk
                            have r1 := eq_true p1
                            have r2 := eq_true q1
                            obtain ⟨r, hr⟩ : ∃ r, r = rd_T33 arrs I := ⟨_, rfl⟩
                            rw [← hr] at x0 x1 x2 l0 l1 l2 l3 HW
                            clear hr
                            obtain ⟨f0, f1, f2⟩ := r
                            dsimp only at x0 x1 x2 l0 l1 l2 l3
                            obtain ⟨n1, hn1⟩ : ∃ n1, f1.toNat = n1 := ⟨_, rfl⟩
                            have HN1 := Aside0.mk (show (wordsOf mt ⟨f0, f1, f2⟩).length = n1 by rw [wordsOf_length]; exact hn1)
                            have HN2 := Aside0.mk (show (n1 : Int) = f1 by omega)
                            clear hn1
                            go_upto_region 52 with (first | ((with_reducible refine gate_dst (N := 21) rfl ?_); go_must (refine ev_box HS rfl (N := 21) rfl (cs := #[.int .i64 0, .int .i64 0, .int .i64 0]) (t := 33) ?hrun ?_); (case hrun => first | (go_simp; done) | (go_simp; rfl)); clear HS; intro ga w HS) | ((with_reducible refine gate_store (t := 33) (p := 21) rfl ?_); go_must (refine ev_store HS 0 rfl rfl 33 (.tmp 21) (.tmp 179) rfl rfl rfl [.int .i64 f0, .int .i64 f1, .int .i64 f2] ?hx (by kernel_rfl) (by rfl) ?h1 ?_); (case hx => first | rfl | (go_simp; done)); (case h1 => simp [Value.oneCell']); clear HS; intro w HS))
                            have ci_ := HS.cell 0 rfl
                            obtain ⟨ad2, A2, c2, e2, y0, _, hC2⟩ := at_L2 (HS.C 1 rfl) I p1 q1
                            cases e2
                            rw [HW.out, HN1.out] at y0
                            rw [HW.out, HN1.out] at hC2
                            have HXW := Aside0.mk hC2
                            clear hC2
                            go_wp2
                            go_loop [22] (fun v22 => ∃ j : Nat, (j : Int) ≤ f1 ∧ v22 = .int .i64 (j : Int)) (fun v22 => f1.toNat - (intOf v22).toNat)
                            case atStart => exact ⟨0, by omega, rfl⟩
                            case round =>
                              obtain ⟨j, hj, rfl⟩ := hrel
                              obtain ⟨J, hJ_⟩ : ∃ J : Int, (j : Int) = J := ⟨_, rfl⟩
                              rw [hJ_]
                              have HJJ := Aside0.mk hJ_
                              by_cases hjl : J < f1
                              · have hJb : decide (J < f1) = true := decide_eq_true hjl
                                have hv2 := words_at mt ⟨f0, f1, f2⟩ l0 j (by dsimp only; omega)
                                dsimp only at hv2
                                rw [hJ_] at hv2
                                have t2 : 0 ≤ J := by omega
                                have t3 : J < (n1 : Int) := by have := HN2.out; omega
                                obtain ⟨aw, ew, z1⟩ := Kd.at_int HXW.out J t2 t3
                                cases ew
                                have hM2 : (M.length : Int) ≤ 20000 := by have := HMLL.out; omega
                                have hwr : wrap64 (f0 + J) = f0 + J := w64 _ (by omega) (by have := HMLL.out; omega)
                                have hwr5 : wrap64 (f0 + J + 5) = f0 + J + 5 := w64 _ (by omega) (by have := HMLL.out; omega)
                                have hwj : wrap64 (J + 1) = J + 1 := w64 _ (by omega) (by have := HMLL.out; omega)
                                have u2 := eq_true t2
                                have u3 := eq_true t3
                                by_cases hge : half ≤ f0 + J
                                · have hgeb : decide (half ≤ f0 + J) = true := decide_eq_true hge
                                  rw [if_neg (by have := HMLE.out; omega)] at hv2
                                  rw [hv2] at z1
                                  clear hJ_ hv2 t2 hjl hge
                                  go_wp2
                                  go_round
                                  case rel => exact ⟨j + 1, by have := HJJ.out; have := of_decide_eq_true hJb; omega, by have := HJJ.out; congr 1; push_cast; omega⟩
                                  case measure => simp only [intOf]; have := HJJ.out; have := of_decide_eq_true hJb; omega
                                · have hgeb : decide (half ≤ f0 + J) = false := decide_eq_false hge
                                  rw [if_pos (by have := HMLE.out; omega), HF5.out (f0 + J) (by omega) (by omega)] at hv2
                                  rw [hv2] at z1
                                  clear hJ_ hv2 t2 hjl hge
                                  go_wp2
                                  go_round
                                  case rel => exact ⟨j + 1, by have := HJJ.out; have := of_decide_eq_true hJb; omega, by have := HJJ.out; congr 1; push_cast; omega⟩
                                  case measure => simp only [intOf]; have := HJJ.out; have := of_decide_eq_true hJb; omega
                              · have hJe : J = f1 := by omega
                                have hJb : decide (J < f1) = false := decide_eq_false hjl
                                clear hJ_ hjl hJe
                                go_wp2
                                go_roundg k3
                                case measure => have := HJ2.out; omega
                                case rel =>
                                  refine ⟨i + 1, ?_, ⟨by have := HII.out; have := of_decide_eq_true c1_; omega, by have := HJ2.out; omega⟩, ⟨HS.erase 0⟩⟩
                                  rw [← HII.out]; rfl
                          · have hkk : i = arrs.length := by have := HJ2.out.1; omega
                            subst hkk
                            have hkb : decide (arrs.length < arrs.length) = false := decide_eq_false (Nat.lt_irrefl _)
                            go_wp2
                            go_ret
                            exact ⟨rfl, HS.old 2 rfl⟩

end
end Go.Proofs.Yteabbcnoamhofaa.B
