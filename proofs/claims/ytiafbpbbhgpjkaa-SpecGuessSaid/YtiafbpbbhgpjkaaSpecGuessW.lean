/- SpecGuess: at a branch the machine goes the other way, and comes back: its walk. -/
import Derived.Test.YtiafbpbbhgpjkaaSpecGuessP
namespace Go.Proofs.Ytiafbpbbhgpjkaa.B
open Go.RowKit Go.Proofs.Ytiafbpbbhgpjkaa.Mine Go.Proofs.Ytiafbpbbhgpjkaa.Sep Go.Proofs.YtiafbpbbhgpjkaaW.PrintWords Go.Proofs.YtiafbpbbhgpjkaaW.PrintLast Go.Proofs.YtiafbpbbhgpjkaaW.PrintMore
set_option linter.unusedVariables false
set_option linter.unusedSimpArgs false
theorem and1 (n : Int) : Go.bits .and .i64 n 1 = n % 2 := by
  have h1 : (BitVec.ofInt 64 1).toNat = 2 ^ 1 - 1 := by decide
  have key : (BitVec.ofInt 64 n &&& BitVec.ofInt 64 1).toNat = (n % ((2 ^ 64 : Nat) : Int)).toNat % 2 ^ 1 := by
    rw [BitVec.toNat_and, BitVec.toNat_ofInt, h1, Nat.and_two_pow_sub_one_eq_mod]
  show IntKind.i64.wrap ((BitVec.ofInt 64 n &&& BitVec.ofInt 64 1).toNat : Nat) = n % 2
  rw [key, IntKind.wrap_i64]
  omega
section
variable {P : Program} {ops : Array Oper} {rest : List Oper} {o : Oper} {a : Act} {Q : Exit → Act → World → Prop} {W0 w : World} {L : List Chunk}
/-- A literal's row as a block. -/
theorem ev_litb (HS : Sat W0 w L) (hgd : o.guard = none) {N : Tmp} (hd : o.dst = some N) {e n : Nat} {cs : Array Value}
    (hrun : (execOp a.eval o).run P w = .ok (.value (.slice (some ⟨w.heap.size, 0, none⟩) n n)) (w.alloc (.cells cs e (0, 0))))
    (h : ∀ g w1, Sat W0 w1 (blk g e cs :: L) → wpList P ops Q rest (a.put (some N) (.slice (some ⟨g, 0, none⟩) n n)) w1) : wpList P ops Q (o :: rest) a w :=
  Kd.event_run hgd hrun (by rw [hd]; exact h _ _ (HS.alloc e cs))
/-- A struct is stored into a block's midst. -/
theorem ev_partN {g : Nat} {t : TypeId} {cs : Array Value} (HS : Sat W0 w L) (i : Nat) (hi : L[i]? = some (blk g t cs)) (hgd : o.guard = none) (k : Nat) (ty : TypeId) (p x : Operand) (ho : o.op = .store ty p x) (hd : o.dst = none) (hp : a.eval p = .pointer (some ⟨g, k, none⟩)) (vs : List Value) (hx : a.eval x = .agg vs.toArray) (hin : (P.info? ty).map (·.size) = some vs.length) (hl : k + vs.length ≤ cs.size)
    (h1 : ∀ q ∈ vs, q.oneCell' = true) (cs' : Array Value) (he : setA cs k vs = cs')
    (h : ∀ w1, Sat W0 w1 (L.set i (blk g t cs')) → wpList P ops Q rest a w1) : wpList P ops Q (o :: rest) a w := by
  refine wpList_plain hgd fun K hK => ?_
  have hr := run_store_run (P := P) (w := w) (o := k) ty (.agg vs.toArray) vs (HS.blk i hi) (by simp [Value.cells]) hin (by omega) h1
  unfold Oper.wp execOp
  simp only [ho, hp, hx, Sem.run_bind, Sem.run_pure, hr, Result.andThen_ok]
  show K (a.put o.dst undef) _
  rw [hd]
  refine hK _ _ (h _ (HS.upd i hi fun s h => ?_))
  obtain ⟨h1, h2, h3, h4⟩ := but_setCells g vs k w
  refine ⟨⟨h1, h2, h3, by omega, fun j _ hs => Sep.heap_setCells g vs k w j (fun e => hs (by rw [e]; exact h.2))⟩, ?_, .inl h.2⟩
  rw [← he]
  exact blk_setCells g t vs k w cs h.1
/-- A block of elements is a row. -/
theorem Sat.toRow {α : Type} (d : Kd α) {e g : Nat} {cs : Array Value} {xs : List α} (HS : Sat W0 w (Sep.blk g e cs :: L)) (hr : Reps (d.M w 0 (fun _ => False)) d.sz xs cs.toList) (hm : xs.length ≤ 9223372036854775807) :
    Sat W0 w (Sep.row d e (.slice (some ⟨g, 0, none⟩) xs.length xs.length) xs :: L) := by
  have hsz : cs.size = xs.length * d.sz := by simpa using hr.1
  obtain ⟨h1, h2, h3, h4, F, hF, hD⟩ := HS
  refine ⟨h1, h2, h3, h4, F, fun i c hi => ?_, hD⟩
  cases i with
  | zero =>
    obtain rfl := Option.some.inj hi
    obtain ⟨hb, hs⟩ := hF 0 _ rfl
    refine ⟨fun k hk => ?_, cs.toList, ⟨by simpa using hsz, .inr ⟨g, xs.length, cs, rfl, Nat.zero_le _, hb, Nat.le_refl _, by simpa [maxLen] using hm, hsz, List.take_of_length_le (by rw [Array.length_toList, hsz]; exact Nat.le_refl _)⟩⟩, ?_⟩
    · have : g = k := by simpa [Value.ownBlock] using hk
      rw [← this]; exact hs
    · exact hr.imp_ (fun p c hp => d.M_mono (fun k hk => hk.elim) hp)
  | succ i => exact hF (i + 1) c hi
end
set_option maxRecDepth 100000 in
theorem info_ins : (Try.prog.info? 48).map (fun i => (i.zero, i.size, i.bytes)) = some (some (.agg #[.int .i64 0, .int .i64 0, .int .i64 0, .int .i64 0, .int .i64 0, .int .i64 0]), 6, 48) := by kernel_rfl
set_option maxRecDepth 100000 in
theorem glen (y : Bool) (i : Nat) (x : S48) : (gC0 y ++ gNums i ++ [x]).length = i + 1 + 3 := by
  simp only [List.length_append, gNums_length, gC0, List.length_cons, List.length_nil]
  omega
theorem gC_eq (y : Bool) (n : Nat) : gC0 y ++ gNums n ++ [⟨10, 0, 0, 0, 0, 0⟩, ⟨11, 0, 2, 0, 0, 0⟩] = gC y n := rfl
theorem nil_K {α : Type} (d : Kd α) (w : World) : d.C w none 0 [] := nil_C _ _
section

set_option maxRecDepth 100000 in
set_option maxHeartbeats 4000000 in
theorem guess_true (b1 b2 b3 : Int) (win n : Int) (W : World) : True := trivial

set_option maxRecDepth 100000 in
set_option maxHeartbeats 4000000 in
theorem guess_true_ (a1 a2 a3 : Int) (wn n : Nat) (B win : Int) (hwn : Aside0 (win = (wn : Int))) (W : World) (h1 : Go.bits .and .i64 a1 15 = B) (hwin : 1 + B = win) (h2 : Go.bits .and .i64 a2 31 = (n : Int)) (hw0 : 1 ≤ wn) (hw1 : wn ≤ 16) (hn : n < 32) :
    Calls Try.prog 4 #[.bool true, .int .i64 a1, .int .i64 a2, .int .i64 a3] W fun e W' => e = .returned (.bool true) ∧ Below W.heap.size W W' := by
  have HS := Sat.start W
  have hww : wrap64 win = win := w64 _ (by have := hwn.out; omega) (by have := hwn.out; omega)
  have hwi1 : 1 ≤ win := by have := hwn.out; omega
  have hwi2 : win ≤ 16 := by have := hwn.out; omega
  go_enter Try.func4, Try.ntmps4
  go_upto_region 3 with (go_at_call 9; refine (head_calls HS).mono ?_; rintro e w_ ⟨rfl, HS_⟩; clear HS; have HS := HS_; clear HS_)
  go_upto_region 6 with ((with_reducible refine gate_dst (N := 28) rfl ?_); go_must (refine ev_litb HS rfl (N := 28) rfl (cs := #[.int .i64 1, .int .i64 1, .int .i64 0, .int .i64 0, .int .i64 0, .int .i64 0, .int .i64 7, .int .i64 0, .int .i64 1, .int .i64 0, .int .i64 0, .int .i64 3, .int .i64 6, .int .i64 0, .int .i64 0, .int .i64 0, .int .i64 0, .int .i64 3]) (e := 48) (n := 3) ?hrun ?_); (case hrun => first | (go_simp; done) | (go_simp; rfl)); clear HS; intro gl w HS)
  have fg : w.frozen? ⟨gl, 5, none⟩ = false := HS.frozen 0 rfl 5
  have cg := HS.cell 0 rfl
  go_upto_region 8 with (fail)
  replace HS := HS.store 0 rfl 5 (.int .i64 7)
  clear fg cg
  go_upto_region 9 with ((with_reducible refine gate_store (t := 48) (p := 35) rfl ?_); go_must (refine ev_partN HS 0 rfl rfl 12 48 (.tmp 35) (.tmp 34) rfl rfl rfl [.int .i64 1, .int .i64 2, .int .i64 0, .int .i64 0, .int .i64 0, .int .i64 1] rfl (by kernel_rfl) (by decide) ?h1 #[.int .i64 1, .int .i64 1, .int .i64 0, .int .i64 0, .int .i64 0, .int .i64 7, .int .i64 7, .int .i64 0, .int .i64 1, .int .i64 0, .int .i64 0, .int .i64 3, .int .i64 1, .int .i64 2, .int .i64 0, .int .i64 0, .int .i64 0, .int .i64 1] rfl ?_); (case h1 => simp [Value.oneCell']); clear HS; intro w HS)
  replace HS : Sat W w [row k48 48 (.slice (some ⟨gl, 0, none⟩) (gC0 true).length (gC0 true).length) (gC0 true), old W] := Sat.toRow k48 (xs := gC0 true) HS (reps_ins (gC0 true)) (by decide)
  go_wp2
  go_loopg [9, 10] (n + 1) (fun kq v9 v10 w' => ∃ (i : Nat) (A : Option Addr) (c : Nat), v9 = .slice A (i + 3) c ∧ v10 = .int .i64 (i : Int) ∧ Aside0 (i ≤ n ∧ n + 1 ≤ kq + i) ∧ Aside0 (Sat W w' [row k48 48 (.slice A (i + 3) c) (gC0 true ++ gNums i), old W]))
  case atStart => exact ⟨0, _, _, rfl, rfl, ⟨by omega, by omega⟩, ⟨HS⟩⟩
  case round =>
    clear HS
    obtain ⟨i, A, c, rfl, rfl, HJ, HS'⟩ := hrel
    have HS := HS'.out
    clear HS'
    cases gk with
    | zero => have := HJ.out; omega
    | succ k1 =>
      obtain ⟨I, hI_⟩ : ∃ I : Int, (i : Int) = I := ⟨_, rfl⟩
      rw [hI_]
      have HII := Aside0.mk hI_
      by_cases hk : I < (n : Int)
      · have c1_ : decide (I < (n : Int)) = true := decide_eq_true hk
        have hwi : wrap64 (I + 1) = I + 1 := w64 _ (by omega) (by omega)
        have HIK := Aside0.mk (show i < n ∧ i ≤ 200 from ⟨by omega, by omega⟩)
        clear hk hI_
        go_wp2_with (first | ((with_reducible refine gate_dst (N := 44) rfl ?_); go_must (refine ev_lit k48 (e := 48) HS rfl (N := 44) rfl (xs := [⟨1, 3, 0, 0, 0, I⟩]) (inner := [.int .i64 1, .int .i64 3, .int .i64 0, .int .i64 0, .int .i64 0, .int .i64 I]) ?hrun (reps_ins [⟨1, 3, 0, 0, 0, I⟩]) (by first | decide | simp) ?_); (case hrun => first | (go_simp; done) | (go_simp; rfl)); clear HS; intro gm w HS) | ((with_reducible refine gate_builtin (b := .append) (xs := #[.tmp 41, .tmp 44]) rfl ?_); go_must (refine ev_append k48 HS 1 (.tmp 41) (.tmp 44) 22 48 (.agg #[.int .i64 0, .int .i64 0, .int .i64 0, .int .i64 0, .int .i64 0, .int .i64 0]) 48 rfl (HS.C 0 rfl) (fun _ _ h => h) rfl rfl rfl rfl Try.underlying22 info_ins rfl (by decide) (by omega) (by have := HIK.out; simp only [List.length_append, gNums_length, gC0, List.length_cons, List.length_nil]; omega) ?_); clear HS; intro v1 w HS; obtain ⟨A1, c1, rfl⟩ := HS.slice 1 rfl; rw [glen] at HS ⊢))
        replace HS := HS.tail
        go_roundg k1
        case measure => omega
        case rel =>
          refine ⟨i + 1, A1, c1, rfl, by rw [← HII.out]; first | rfl | (rw [w64 ((i : Int) + 1) (by omega) (by have := HIK.out; omega)]; rfl), ⟨by have := HIK.out; omega, by have := HJ.out; omega⟩, ⟨?_⟩⟩
          rw [gNums, HII.out, ← List.append_assoc]
          exact HS
      · have hkb : decide (I < (n : Int)) = false := decide_eq_false hk
        have hin : i = n := by have := HJ.out.1; omega
        clear hI_ HII
        subst hin
        go_upto_region 14 with (first | ((with_reducible refine gate_dst (N := 49) rfl ?_); go_must (refine ev_lit k48 (e := 48) HS rfl (N := 49) rfl (xs := [⟨10, 0, 0, 0, 0, 0⟩, ⟨11, 0, 2, 0, 0, 0⟩]) (inner := [.int .i64 10, .int .i64 0, .int .i64 0, .int .i64 0, .int .i64 0, .int .i64 0, .int .i64 11, .int .i64 0, .int .i64 2, .int .i64 0, .int .i64 0, .int .i64 0]) ?hrun (reps_ins [⟨10, 0, 0, 0, 0, 0⟩, ⟨11, 0, 2, 0, 0, 0⟩]) (by first | decide | simp) ?_); (case hrun => first | (go_simp; done) | (go_simp; rfl)); clear HS; intro gm w HS) | ((with_reducible refine gate_builtin (b := .append) (xs := #[.tmp 46, .tmp 49]) rfl ?_); go_must (refine ev_append k48 HS 1 (.tmp 46) (.tmp 49) 22 48 (.agg #[.int .i64 0, .int .i64 0, .int .i64 0, .int .i64 0, .int .i64 0, .int .i64 0]) 48 rfl (HS.C 0 rfl) (fun _ _ h => h) rfl rfl rfl rfl Try.underlying22 info_ins rfl (by decide) (by omega) (by simp only [List.length_append, gNums_length, gC0, List.length_cons, List.length_nil]; omega) ?_); clear HS; intro v1 w HS; obtain ⟨Ac, cc, rfl⟩ := HS.slice 1 rfl; rw [gC_eq] at HS ⊢))
        replace HS : Sat W w [row k48 48 (.slice Ac (gC true i).length cc) (gC true i), old W] := HS.tail
        have hcc := (HS.cap 0 rfl).2
        have HRI := Aside0.mk (g_right true i hn)
        have HFI := Aside0.mk (fine_of (ins := []) ⟨500, HRI.out⟩)
        go_upto_region 17 with (go_at_call 11; refine (new_calls (Ac := Ac) (cc := cc) (code := gC true i) (Aa := none) (ca := 0) (arrs := []) (st := 0) (me := 0) (Ai := none) (ci := 0) (ins := []) (fun w h => h.C 0 rfl) hcc (fun w h => nil_C _ _) (Nat.le_refl _) (fun w h => nil_C _ _) HRI HFI.out.lies HFI.out.al HFI.out.m0 HFI.out.m1 HFI.out.cl hwi1 (by omega) HS).mono ?_; rintro e w_ ⟨g, Am, cm, At, ct, rfl, HS_⟩; clear HS; have HS := HS_; clear HS_)
        clear hk hkb HRI hcc HJ
        have HI0 := Aside0.mk (g_inv0 true i)
        have HD1 := Aside0.mk (show Calls Try.prog 15 #[.pointer (some ⟨g, 0, none⟩), .agg #[.int .i64 0, .int .i64 0]] w_ (fun e w' => ∃ v, e = .returned v ∧ Sat W w' (row k60 60 v (gD true i win (newX 0 0 [] []) 0).2 :: mch g Am (0 : Int).toNat cm (.slice Ac (gC true i).length cc) (.slice At (sitesF (gC true i) 0).length ct) win (gD true i win (newX 0 0 [] []) 0).1 :: [row IW 3 (.slice At (sitesF (gC true i) 0).length ct) (sitesF (gC true i) 0), row k48 48 (.slice Ac (gC true i).length cc) (gC true i), old W])) from
          deed_calls (fun w h => h.C 1 rfl) (fun w h => h.C 0 rfl) HFI.out.fit (by have := sitesF_len (gC true i) 0; have := HFI.out.cl; omega) (by have := HI0.out.cnt; omega) (by have := HI0.out.len; omega) HS)
        go_upto_region 18 with (go_at_call 15; refine HD1.out.mono ?_; rintro e w_ ⟨v, rfl, HS_⟩; clear HS HD1; have HS := HS_.tail; clear HS_)
        have hi1 := g_inv true i win HI0.out (by omega) 0
        obtain ⟨X1, hX1⟩ : ∃ X, X = (gD true i win (newX 0 0 [] []) 0).1 := ⟨_, rfl⟩
        rw [← hX1] at hi1 HS
        have HI1 := Aside0.mk hi1
        obtain ⟨R2, hR2⟩ : ∃ R, R = gX2 true i win := ⟨_, rfl⟩
        have hE2 : gD true i win X1 1 = R2 := by rw [hR2, hX1]; rfl
        have HD2 := Aside0.mk (show Calls Try.prog 15 #[.pointer (some ⟨g, 0, none⟩), .agg #[.int .i64 1, .int .i64 0]] w_ (fun e w' => ∃ v, e = .returned v ∧ Sat W w' (row k60 60 v R2.2 :: mch g Am (0 : Int).toNat cm (.slice Ac (gC true i).length cc) (.slice At (sitesF (gC true i) 0).length ct) win R2.1 :: [row IW 3 (.slice At (sitesF (gC true i) 0).length ct) (sitesF (gC true i) 0), row k48 48 (.slice Ac (gC true i).length cc) (gC true i), old W])) from by
          rw [← hE2]
          exact deed_calls (fun w h => h.C 1 rfl) (fun w h => h.C 0 rfl) HFI.out.fit (by have := sitesF_len (gC true i) 0; have := HFI.out.cl; omega) (by have := HI1.out.cnt; omega) (by have := HI1.out.len; omega) HS)
        have hi2 := g_inv true i win HI1.out (by omega) 1
        rw [hE2] at hi2
        have HI2 := Aside0.mk hi2
        have hok := gOk1_spec (by have h := g_chk true true i wn hn hw0 hw1; unfold gChk at h; rw [← hwn.out] at h; simp only [Bool.and_eq_true] at h; exact h.1)
        rw [← hR2] at hok
        obtain ⟨k1_, k2_, k3_, k4_, k5_⟩ := hok
        have HK := Aside0.mk (And.intro k1_ (And.intro k2_ (And.intro k3_ (And.intro k4_ k5_))))
        have HR2 := Aside0.mk hR2
        clear hi1 hX1 hR2 hE2 hi2 k1_ k2_ k3_ k4_ k5_
        go_upto_region 19 with (go_at_call 15; refine HD2.out.mono ?_; rintro e w_ ⟨v, rfl, HS_⟩; clear HS HD2; have HS := HS_; clear HS_; obtain ⟨Vo, co, rfl⟩ := HS.slice 0 rfl; rw [HK.out.2.1] at HS ⊢)
        have q5 := HK.out.2.2.2.2
        have q4 := HK.out.2.2.2.1
        clear q4 q5
        go_upto_region 21 with (go_at_call 17; refine (guesses_at (X := R2.1) (by have := HI2.out.cnt; omega) 1 rfl HS).mono ?_; rw [HK.out.1]; rintro e w_ ⟨rfl, HS_⟩; clear HS; have HS := HS_; clear HS_; obtain ⟨ado, rfl, x0, x1, _⟩ := at_T60 (HS.C 0 rfl) 1 (by decide) (by decide); rw [show (rd_T60 R2.2 1).f0 = 3 from HK.out.2.2.1] at x0; rw [show (rd_T60 R2.2 1).f1 = 1 from of_decide_eq_true HK.out.2.2.2.1] at x1; have HM := mchC HS 1 rfl; have c64 := (HM.2.1 64 (by decide)).trans (stL_pc HM.1); clear HM; rw [show R2.1.s.pc = 2 from of_decide_eq_true HK.out.2.2.2.2] at c64; replace x0 : w_.cell? ⟨ado.block, ado.off + 3, none⟩ = _ := x0; replace x1 : w_.cell? ⟨ado.block, ado.off + 3 + 1, none⟩ = _ := x1; have x1' : w_.cell? ⟨ado.block, ado.off + 4, none⟩ = _ := x1)
        have hwf : wrap64 ((i : Int) + 1) = (i : Int) + 1 := w64 _ (by omega) (by omega)
        go_upto_region 25 with (fail)
        obtain ⟨F0, hF0⟩ : ∃ F0 : Nat, F0 = gFar true i wn false := ⟨_, rfl⟩
        have hmin : (if win < (i : Int) + 1 then win else (i : Int) + 1) = (F0 : Int) := by
          rw [hF0, hwn.out]
          show _ = ((min (i + 1) wn : Nat) : Int)
          split <;> omega
        rw [hmin]
        clear hmin
        have hF1 : F0 ≤ 40 := by rw [hF0]; show min (i + 1) wn ≤ 40; omega
        have HF0 := Aside0.mk hF0
        clear hF0
        replace HS : Sat W w_ [mch g Am (0 : Int).toNat cm (.slice Ac (gC true i).length cc) (.slice At (sitesF (gC true i) 0).length ct) win R2.1, row IW 3 (.slice At (sitesF (gC true i) 0).length ct) (sitesF (gC true i) 0), row k48 48 (.slice Ac (gC true i).length cc) (gC true i), old W] := HS.tail
        obtain ⟨E, hE⟩ : ∃ E, E = Go.bits .and .i64 a3 1 := ⟨_, rfl⟩
        have hE01 : E = 0 ∨ E = 1 := by rw [hE, and1]; omega
        have hbE : Go.bits .and .i64 a3 1 = E := hE.symm
        clear hE c64 x0 x1 x1'
        rcases hE01 with rfl | rfl
        · have hrun : gRun true i win 0 F0 R2.1 = true := by
            have h := g_chk true false i wn hn hw0 hw1
            unfold gChk at h
            rw [← hwn.out, ← HF0.out, if_neg (by decide)] at h
            simp only [Bool.and_eq_true] at h
            have h2 := h.2
            rw [← HR2.out] at h2
            exact h2
          have HRUN := Aside0.mk hrun
          clear hrun
          go_upto_region 27 with (fail)
          go_wp2
          go_loopg [15] (F0 + 1) (fun kq v15 w' => ∃ (k : Nat) (X : SM), v15 = .int .i64 (k : Int) ∧ Aside0 (k ≤ F0 ∧ F0 + 1 ≤ kq + k ∧ Inv (gC true i) (beginS 0, startF [] [] 0) (k + 2) X ∧ gRun true i win 0 (F0 - k) X = true) ∧ Aside0 (Sat W w' [mch g Am (0 : Int).toNat cm (.slice Ac (gC true i).length cc) (.slice At (sitesF (gC true i) 0).length ct) win X, row IW 3 (.slice At (sitesF (gC true i) 0).length ct) (sitesF (gC true i) 0), row k48 48 (.slice Ac (gC true i).length cc) (gC true i), old W]))
          case atStart => exact ⟨0, R2.1, rfl, ⟨by omega, by omega, HI2.out, HRUN.out⟩, ⟨HS⟩⟩
          case round =>
            clear HS
            obtain ⟨k, X, rfl, HJ, HS'⟩ := hrel
            have HS := HS'.out
            clear HS'
            cases gk with
            | zero => have := HJ.out; omega
            | succ k2 =>
              obtain ⟨K, hK_⟩ : ∃ K : Int, (k : Int) = K := ⟨_, rfl⟩
              rw [hK_]
              have HKK := Aside0.mk hK_
              by_cases hk : K < (F0 : Int)
              · have c1_ : decide (K < (F0 : Int)) = true := decide_eq_true hk
                have hwk : wrap64 (K + 1) = K + 1 := w64 _ (by omega) (by omega)
                have HIK := Aside0.mk (show k < F0 ∧ k ≤ 40 from ⟨by omega, by omega⟩)
                clear hk hK_
                have hst := gRun_step (k := F0 - (k + 1)) (by have h := HJ.out.2.2.2; rwa [show F0 - k = F0 - (k + 1) + 1 from by have := HIK.out; omega] at h)
                have hiq := g_inv true i win HJ.out.2.2.1 (by have := HIK.out; omega) 0
                obtain ⟨Q, hQ⟩ : ∃ Q, Q = gD true i win X 0 := ⟨_, rfl⟩
                have HDX := Aside0.mk (show Calls Try.prog 15 #[.pointer (some ⟨g, 0, none⟩), .agg #[.int .i64 0, .int .i64 0]] wr (fun e w' => ∃ v, e = .returned v ∧ Sat W w' (row k60 60 v Q.2 :: mch g Am (0 : Int).toNat cm (.slice Ac (gC true i).length cc) (.slice At (sitesF (gC true i) 0).length ct) win Q.1 :: [row IW 3 (.slice At (sitesF (gC true i) 0).length ct) (sitesF (gC true i) 0), row k48 48 (.slice Ac (gC true i).length cc) (gC true i), old W])) from by
                  rw [hQ]
                  exact deed_calls (fun w h => h.C 1 rfl) (fun w h => h.C 0 rfl) HFI.out.fit (by have := sitesF_len (gC true i) 0; have := HFI.out.cl; omega) (by have := HJ.out.2.2.1.cnt; have := HIK.out; omega) (by have := HJ.out.2.2.1.len; have := HIK.out; omega) HS)
                rw [← hQ] at hst hiq
                have HQ := Aside0.mk hQ
                have HST := Aside0.mk hst
                have HIQ := Aside0.mk hiq
                clear hQ hst hiq
                go_wp2_with (first | (go_at_call 15; refine HDX.out.mono ?_; rintro e w_ ⟨v, rfl, HS_⟩; clear HS HDX; have HS := HS_; clear HS_; obtain ⟨Ve, ce, rfl⟩ := HS.slice 0 rfl; rw [HST.out.2.1] at HS ⊢) | (go_at_call 17; refine (guesses_at (X := Q.1) (by have := HIQ.out.cnt; have := HIK.out; omega) 1 rfl HS).mono ?_; rw [HST.out.1]; rintro e w_ ⟨rfl, HS_⟩; clear HS; have HS := HS_; clear HS_))
                go_roundg k2
                case measure => omega
                case rel =>
                  refine ⟨k + 1, Q.1, by rw [← HKK.out]; first | rfl | (rw [w64 ((k : Int) + 1) (by omega) (by have := HIK.out; omega)]; rfl), ⟨by have := HIK.out; omega, by have := HJ.out; omega, HIQ.out, HST.out.2.2⟩, ⟨HS.tail⟩⟩
              · have hkb : decide (K < (F0 : Int)) = false := decide_eq_false hk
                have hkF : F0 - k = 0 := by omega
                have HIK := Aside0.mk (show k ≤ 40 from by have := HJ.out.1; omega)
                have hrn := HJ.out.2.2.2
                rw [hkF, gRun] at hrn
                have hok := gOk3_spec hrn
                obtain ⟨Q, hQ⟩ : ∃ Q, Q = gD true i win X 0 := ⟨_, rfl⟩
                rw [← hQ] at hok
                have HOK := Aside0.mk hok
                have hiq := g_inv true i win HJ.out.2.2.1 (by have := HIK.out; omega) 0
                rw [← hQ] at hiq
                have HIQ := Aside0.mk hiq
                have HQ := Aside0.mk hQ
                clear hQ hok hiq hrn hkF hk hK_
                go_upto_region 36 with (first | ((with_reducible refine gate_dst (N := 17) rfl ?_); go_must (refine ev_box HS rfl (N := 17) rfl (cs := #[.int .i64 0, .int .i64 0]) (t := 44) ?hrun ?_); (case hrun => first | (go_simp; done) | (go_simp; rfl)); clear HS; intro gd w HS) | ((with_reducible refine gate_store (t := 44) (p := 17) rfl ?_); go_must (refine ev_store HS 0 rfl rfl 44 (.tmp 17) (.tmp 126) rfl rfl rfl [.int .i64 0, .int .i64 0] ?hx (by kernel_rfl) (by rfl) ?h1 ?_); (case hx => first | rfl | (go_simp; done)); (case h1 => simp [Value.oneCell']); clear HS; intro w HS))
                skip
                replace HS : Sat W w [blk gd 44 #[.int .i64 0, .int .i64 0], mch g Am (0 : Int).toNat cm (.slice Ac (gC true i).length cc) (.slice At (sitesF (gC true i) 0).length ct) win X, row IW 3 (.slice At (sitesF (gC true i) 0).length ct) (sitesF (gC true i) 0), row k48 48 (.slice Ac (gC true i).length cc) (gC true i), old W] := HS
                replace HS := HS.swap
                have HDL := Aside0.mk (show Calls Try.prog 15 #[.pointer (some ⟨g, 0, none⟩), .agg #[.int .i64 0, .int .i64 0]] w (fun e w' => ∃ v, e = .returned v ∧ Sat W w' (row k60 60 v Q.2 :: mch g Am (0 : Int).toNat cm (.slice Ac (gC true i).length cc) (.slice At (sitesF (gC true i) 0).length ct) win Q.1 :: [blk gd 44 #[.int .i64 0, .int .i64 0], row IW 3 (.slice At (sitesF (gC true i) 0).length ct) (sitesF (gC true i) 0), row k48 48 (.slice Ac (gC true i).length cc) (gC true i), old W])) from by
                  rw [HQ.out]
                  exact deed_calls (fun w h => h.C 2 rfl) (fun w h => h.C 1 rfl) HFI.out.fit (by have := sitesF_len (gC true i) 0; have := HFI.out.cl; omega) (by have := HJ.out.2.2.1.cnt; have := HIK.out; omega) (by have := HJ.out.2.2.1.len; have := HIK.out; omega) HS)
                go_upto_region 37 with (first | ((with_reducible refine gate_load (ty := 44) (p := 17) rfl ?_); go_must (refine ev_load HS 1 rfl rfl 44 (.tmp 17) rfl (N := 132) rfl rfl _ Try.underlying44 rfl (by kernel_rfl) ?_)) | (go_at_call 15; refine HDL.out.mono ?_; rintro e w_ ⟨v, rfl, HS_⟩; clear HS HDL; have HS := HS_; clear HS_; obtain ⟨Ve, ce, rfl⟩ := HS.slice 0 rfl; rw [HOK.out.2.1] at HS ⊢))
                have hgu := guesses_at (X := Q.1) (by have := HIQ.out.cnt; have := HIK.out; omega) 1 rfl HS
                rw [HOK.out.1] at hgu
                have HGU := Aside0.mk hgu
                clear hgu
                go_wp2_with (go_at_call 17; refine HGU.out.mono ?_; rintro e w_ ⟨rfl, HS_⟩; clear HS HGU; have HS := HS_; clear HS_; obtain ⟨ado, rfl, x0, _⟩ := at_T60 (HS.C 0 rfl) 0 (by decide) (by decide); rw [show (rd_T60 Q.2 0).f0 = 6 from HOK.out.2.2.1] at x0; replace x0 : w_.cell? ado = _ := x0; have HM := mchC HS 1 rfl; have c64 := (HM.2.1 64 (by decide)).trans (stL_pc HM.1); have c3 := (HM.2.1 3 (by decide)).trans (stL_reg HM.1 3 (by decide)); rw [HOK.out.2.2.2.2.2] at c3; clear HM; rw [show Q.1.s.pc = 3 from of_decide_eq_true HOK.out.2.2.2.1] at c64)
                go_ret
                exact ⟨rfl, HS.old 5 rfl⟩
        · have hrun : gRun true i win 3 0 R2.1 = true := by
            have h := g_chk true true i wn hn hw0 hw1
            unfold gChk at h
            rw [← hwn.out, show gFar true i wn true = 0 from rfl, if_pos rfl] at h
            simp only [Bool.and_eq_true] at h
            have h2 := h.2
            rw [← HR2.out] at h2
            exact h2
          have HRUN := Aside0.mk hrun
          clear hrun
          go_upto_region 27 with (fail)
          go_wp2
          go_loopg [15] (0 + 1) (fun kq v15 w' => ∃ (k : Nat) (X : SM), v15 = .int .i64 (k : Int) ∧ Aside0 (k ≤ 0 ∧ 0 + 1 ≤ kq + k ∧ Inv (gC true i) (beginS 0, startF [] [] 0) (k + 2) X ∧ gRun true i win 3 (0 - k) X = true) ∧ Aside0 (Sat W w' [mch g Am (0 : Int).toNat cm (.slice Ac (gC true i).length cc) (.slice At (sitesF (gC true i) 0).length ct) win X, row IW 3 (.slice At (sitesF (gC true i) 0).length ct) (sitesF (gC true i) 0), row k48 48 (.slice Ac (gC true i).length cc) (gC true i), old W]))
          case atStart => exact ⟨0, R2.1, rfl, ⟨by omega, by omega, HI2.out, HRUN.out⟩, ⟨HS⟩⟩
          case round =>
            clear HS
            obtain ⟨k, X, rfl, HJ, HS'⟩ := hrel
            have HS := HS'.out
            clear HS'
            cases gk with
            | zero => have := HJ.out; omega
            | succ k2 =>
              obtain ⟨K, hK_⟩ : ∃ K : Int, (k : Int) = K := ⟨_, rfl⟩
              rw [hK_]
              have HKK := Aside0.mk hK_
              by_cases hk : K < 0
              · have c1_ : decide (K < 0) = true := decide_eq_true hk
                have hwk : wrap64 (K + 1) = K + 1 := w64 _ (by omega) (by omega)
                have HIK := Aside0.mk (show k < 0 ∧ k ≤ 40 from ⟨by omega, by omega⟩)
                clear hk hK_
                have hst := gRun_step (k := 0 - (k + 1)) (by have h := HJ.out.2.2.2; rwa [show 0 - k = 0 - (k + 1) + 1 from by have := HIK.out; omega] at h)
                have hiq := g_inv true i win HJ.out.2.2.1 (by have := HIK.out; omega) 0
                obtain ⟨Q, hQ⟩ : ∃ Q, Q = gD true i win X 0 := ⟨_, rfl⟩
                have HDX := Aside0.mk (show Calls Try.prog 15 #[.pointer (some ⟨g, 0, none⟩), .agg #[.int .i64 0, .int .i64 0]] wr (fun e w' => ∃ v, e = .returned v ∧ Sat W w' (row k60 60 v Q.2 :: mch g Am (0 : Int).toNat cm (.slice Ac (gC true i).length cc) (.slice At (sitesF (gC true i) 0).length ct) win Q.1 :: [row IW 3 (.slice At (sitesF (gC true i) 0).length ct) (sitesF (gC true i) 0), row k48 48 (.slice Ac (gC true i).length cc) (gC true i), old W])) from by
                  rw [hQ]
                  exact deed_calls (fun w h => h.C 1 rfl) (fun w h => h.C 0 rfl) HFI.out.fit (by have := sitesF_len (gC true i) 0; have := HFI.out.cl; omega) (by have := HJ.out.2.2.1.cnt; have := HIK.out; omega) (by have := HJ.out.2.2.1.len; have := HIK.out; omega) HS)
                rw [← hQ] at hst hiq
                have HQ := Aside0.mk hQ
                have HST := Aside0.mk hst
                have HIQ := Aside0.mk hiq
                clear hQ hst hiq
                go_wp2_with (first | (go_at_call 15; refine HDX.out.mono ?_; rintro e w_ ⟨v, rfl, HS_⟩; clear HS HDX; have HS := HS_; clear HS_; obtain ⟨Ve, ce, rfl⟩ := HS.slice 0 rfl; rw [HST.out.2.1] at HS ⊢) | (go_at_call 17; refine (guesses_at (X := Q.1) (by have := HIQ.out.cnt; have := HIK.out; omega) 1 rfl HS).mono ?_; rw [HST.out.1]; rintro e w_ ⟨rfl, HS_⟩; clear HS; have HS := HS_; clear HS_))
                go_roundg k2
                case measure => omega
                case rel =>
                  refine ⟨k + 1, Q.1, by rw [← HKK.out]; first | rfl | (rw [w64 ((k : Int) + 1) (by omega) (by have := HIK.out; omega)]; rfl), ⟨by have := HIK.out; omega, by have := HJ.out; omega, HIQ.out, HST.out.2.2⟩, ⟨HS.tail⟩⟩
              · have hkb : decide (K < 0) = false := decide_eq_false hk
                have hkF : 0 - k = 0 := by omega
                have HIK := Aside0.mk (show k ≤ 40 from by have := HJ.out.1; omega)
                have hrn := HJ.out.2.2.2
                rw [hkF, gRun] at hrn
                have hok := gOk3_spec hrn
                obtain ⟨Q, hQ⟩ : ∃ Q, Q = gD true i win X 3 := ⟨_, rfl⟩
                rw [← hQ] at hok
                have HOK := Aside0.mk hok
                have hiq := g_inv true i win HJ.out.2.2.1 (by have := HIK.out; omega) 3
                rw [← hQ] at hiq
                have HIQ := Aside0.mk hiq
                have HQ := Aside0.mk hQ
                clear hQ hok hiq hrn hkF hk hK_
                go_upto_region 34 with (first | ((with_reducible refine gate_dst (N := 17) rfl ?_); go_must (refine ev_box HS rfl (N := 17) rfl (cs := #[.int .i64 0, .int .i64 0]) (t := 44) ?hrun ?_); (case hrun => first | (go_simp; done) | (go_simp; rfl)); clear HS; intro gd w HS) | ((with_reducible refine gate_store (t := 44) (p := 17) rfl ?_); go_must (refine ev_store HS 0 rfl rfl 44 (.tmp 17) (.tmp 126) rfl rfl rfl [.int .i64 0, .int .i64 0] ?hx (by kernel_rfl) (by rfl) ?h1 ?_); (case hx => first | rfl | (go_simp; done)); (case h1 => simp [Value.oneCell']); clear HS; intro w HS))
                have fg : w.frozen? ⟨gd, 0, none⟩ = false := HS.frozen 0 rfl 0
                have cg := HS.cell 0 rfl
                go_upto_region 36 with (fail)
                replace HS := HS.store 0 rfl 0 (.int .i64 3)
                clear fg cg
                generalize World.setCell w ⟨gd, 0, none⟩ (.int .i64 3) = w at HS ⊢
                replace HS : Sat W w [blk gd 44 #[.int .i64 3, .int .i64 0], mch g Am (0 : Int).toNat cm (.slice Ac (gC true i).length cc) (.slice At (sitesF (gC true i) 0).length ct) win X, row IW 3 (.slice At (sitesF (gC true i) 0).length ct) (sitesF (gC true i) 0), row k48 48 (.slice Ac (gC true i).length cc) (gC true i), old W] := HS
                replace HS := HS.swap
                have HDL := Aside0.mk (show Calls Try.prog 15 #[.pointer (some ⟨g, 0, none⟩), .agg #[.int .i64 3, .int .i64 0]] w (fun e w' => ∃ v, e = .returned v ∧ Sat W w' (row k60 60 v Q.2 :: mch g Am (0 : Int).toNat cm (.slice Ac (gC true i).length cc) (.slice At (sitesF (gC true i) 0).length ct) win Q.1 :: [blk gd 44 #[.int .i64 3, .int .i64 0], row IW 3 (.slice At (sitesF (gC true i) 0).length ct) (sitesF (gC true i) 0), row k48 48 (.slice Ac (gC true i).length cc) (gC true i), old W])) from by
                  rw [HQ.out]
                  exact deed_calls (fun w h => h.C 2 rfl) (fun w h => h.C 1 rfl) HFI.out.fit (by have := sitesF_len (gC true i) 0; have := HFI.out.cl; omega) (by have := HJ.out.2.2.1.cnt; have := HIK.out; omega) (by have := HJ.out.2.2.1.len; have := HIK.out; omega) HS)
                go_upto_region 37 with (first | ((with_reducible refine gate_load (ty := 44) (p := 17) rfl ?_); go_must (refine ev_load HS 1 rfl rfl 44 (.tmp 17) rfl (N := 132) rfl rfl _ Try.underlying44 rfl (by kernel_rfl) ?_)) | (go_at_call 15; refine HDL.out.mono ?_; rintro e w_ ⟨v, rfl, HS_⟩; clear HS HDL; have HS := HS_; clear HS_; obtain ⟨Ve, ce, rfl⟩ := HS.slice 0 rfl; rw [HOK.out.2.1] at HS ⊢))
                have hgu := guesses_at (X := Q.1) (by have := HIQ.out.cnt; have := HIK.out; omega) 1 rfl HS
                rw [HOK.out.1] at hgu
                have HGU := Aside0.mk hgu
                clear hgu
                go_wp2_with (go_at_call 17; refine HGU.out.mono ?_; rintro e w_ ⟨rfl, HS_⟩; clear HS HGU; have HS := HS_; clear HS_; obtain ⟨ado, rfl, x0, _⟩ := at_T60 (HS.C 0 rfl) 0 (by decide) (by decide); rw [show (rd_T60 Q.2 0).f0 = 6 from HOK.out.2.2.1] at x0; replace x0 : w_.cell? ado = _ := x0; have HM := mchC HS 1 rfl; have c64 := (HM.2.1 64 (by decide)).trans (stL_pc HM.1); have c3 := (HM.2.1 3 (by decide)).trans (stL_reg HM.1 3 (by decide)); rw [HOK.out.2.2.2.2.2] at c3; clear HM; rw [show Q.1.s.pc = 3 from of_decide_eq_true HOK.out.2.2.2.1] at c64)
                go_ret
                exact ⟨rfl, HS.old 5 rfl⟩

set_option maxRecDepth 100000 in
set_option maxHeartbeats 4000000 in
theorem guess_false (b1 b2 b3 : Int) (win n : Int) (W : World) : True := trivial

set_option maxRecDepth 100000 in
set_option maxHeartbeats 4000000 in
theorem guess_false_ (a1 a2 a3 : Int) (wn n : Nat) (B win : Int) (hwn : Aside0 (win = (wn : Int))) (W : World) (h1 : Go.bits .and .i64 a1 15 = B) (hwin : 1 + B = win) (h2 : Go.bits .and .i64 a2 31 = (n : Int)) (hw0 : 1 ≤ wn) (hw1 : wn ≤ 16) (hn : n < 32) :
    Calls Try.prog 4 #[.bool false, .int .i64 a1, .int .i64 a2, .int .i64 a3] W fun e W' => e = .returned (.bool true) ∧ Below W.heap.size W W' := by
  have HS := Sat.start W
  have hww : wrap64 win = win := w64 _ (by have := hwn.out; omega) (by have := hwn.out; omega)
  have hwi1 : 1 ≤ win := by have := hwn.out; omega
  have hwi2 : win ≤ 16 := by have := hwn.out; omega
  go_enter Try.func4, Try.ntmps4
  go_upto_region 3 with (go_at_call 9; refine (head_calls HS).mono ?_; rintro e w_ ⟨rfl, HS_⟩; clear HS; have HS := HS_; clear HS_)
  go_upto_region 6 with ((with_reducible refine gate_dst (N := 28) rfl ?_); go_must (refine ev_litb HS rfl (N := 28) rfl (cs := #[.int .i64 1, .int .i64 1, .int .i64 0, .int .i64 0, .int .i64 0, .int .i64 0, .int .i64 7, .int .i64 0, .int .i64 1, .int .i64 0, .int .i64 0, .int .i64 3, .int .i64 6, .int .i64 0, .int .i64 0, .int .i64 0, .int .i64 0, .int .i64 3]) (e := 48) (n := 3) ?hrun ?_); (case hrun => first | (go_simp; done) | (go_simp; rfl)); clear HS; intro gl w HS)
  have fg : w.frozen? ⟨gl, 5, none⟩ = false := HS.frozen 0 rfl 5
  have cg := HS.cell 0 rfl
  go_upto_region 8 with (fail)
  clear fg cg
  go_upto_region 9 with ((with_reducible refine gate_store (t := 48) (p := 35) rfl ?_); go_must (refine ev_partN HS 0 rfl rfl 12 48 (.tmp 35) (.tmp 34) rfl rfl rfl [.int .i64 1, .int .i64 2, .int .i64 0, .int .i64 0, .int .i64 0, .int .i64 1] rfl (by kernel_rfl) (by decide) ?h1 #[.int .i64 1, .int .i64 1, .int .i64 0, .int .i64 0, .int .i64 0, .int .i64 0, .int .i64 7, .int .i64 0, .int .i64 1, .int .i64 0, .int .i64 0, .int .i64 3, .int .i64 1, .int .i64 2, .int .i64 0, .int .i64 0, .int .i64 0, .int .i64 1] rfl ?_); (case h1 => simp [Value.oneCell']); clear HS; intro w HS)
  replace HS : Sat W w [row k48 48 (.slice (some ⟨gl, 0, none⟩) (gC0 false).length (gC0 false).length) (gC0 false), old W] := Sat.toRow k48 (xs := gC0 false) HS (reps_ins (gC0 false)) (by decide)
  go_wp2
  go_loopg [9, 10] (n + 1) (fun kq v9 v10 w' => ∃ (i : Nat) (A : Option Addr) (c : Nat), v9 = .slice A (i + 3) c ∧ v10 = .int .i64 (i : Int) ∧ Aside0 (i ≤ n ∧ n + 1 ≤ kq + i) ∧ Aside0 (Sat W w' [row k48 48 (.slice A (i + 3) c) (gC0 false ++ gNums i), old W]))
  case atStart => exact ⟨0, _, _, rfl, rfl, ⟨by omega, by omega⟩, ⟨HS⟩⟩
  case round =>
    clear HS
    obtain ⟨i, A, c, rfl, rfl, HJ, HS'⟩ := hrel
    have HS := HS'.out
    clear HS'
    cases gk with
    | zero => have := HJ.out; omega
    | succ k1 =>
      obtain ⟨I, hI_⟩ : ∃ I : Int, (i : Int) = I := ⟨_, rfl⟩
      rw [hI_]
      have HII := Aside0.mk hI_
      by_cases hk : I < (n : Int)
      · have c1_ : decide (I < (n : Int)) = true := decide_eq_true hk
        have hwi : wrap64 (I + 1) = I + 1 := w64 _ (by omega) (by omega)
        have HIK := Aside0.mk (show i < n ∧ i ≤ 200 from ⟨by omega, by omega⟩)
        clear hk hI_
        go_wp2_with (first | ((with_reducible refine gate_dst (N := 44) rfl ?_); go_must (refine ev_lit k48 (e := 48) HS rfl (N := 44) rfl (xs := [⟨1, 3, 0, 0, 0, I⟩]) (inner := [.int .i64 1, .int .i64 3, .int .i64 0, .int .i64 0, .int .i64 0, .int .i64 I]) ?hrun (reps_ins [⟨1, 3, 0, 0, 0, I⟩]) (by first | decide | simp) ?_); (case hrun => first | (go_simp; done) | (go_simp; rfl)); clear HS; intro gm w HS) | ((with_reducible refine gate_builtin (b := .append) (xs := #[.tmp 41, .tmp 44]) rfl ?_); go_must (refine ev_append k48 HS 1 (.tmp 41) (.tmp 44) 22 48 (.agg #[.int .i64 0, .int .i64 0, .int .i64 0, .int .i64 0, .int .i64 0, .int .i64 0]) 48 rfl (HS.C 0 rfl) (fun _ _ h => h) rfl rfl rfl rfl Try.underlying22 info_ins rfl (by decide) (by omega) (by have := HIK.out; simp only [List.length_append, gNums_length, gC0, List.length_cons, List.length_nil]; omega) ?_); clear HS; intro v1 w HS; obtain ⟨A1, c1, rfl⟩ := HS.slice 1 rfl; rw [glen] at HS ⊢))
        replace HS := HS.tail
        go_roundg k1
        case measure => omega
        case rel =>
          refine ⟨i + 1, A1, c1, rfl, by rw [← HII.out]; first | rfl | (rw [w64 ((i : Int) + 1) (by omega) (by have := HIK.out; omega)]; rfl), ⟨by have := HIK.out; omega, by have := HJ.out; omega⟩, ⟨?_⟩⟩
          rw [gNums, HII.out, ← List.append_assoc]
          exact HS
      · have hkb : decide (I < (n : Int)) = false := decide_eq_false hk
        have hin : i = n := by have := HJ.out.1; omega
        clear hI_ HII
        subst hin
        go_upto_region 14 with (first | ((with_reducible refine gate_dst (N := 49) rfl ?_); go_must (refine ev_lit k48 (e := 48) HS rfl (N := 49) rfl (xs := [⟨10, 0, 0, 0, 0, 0⟩, ⟨11, 0, 2, 0, 0, 0⟩]) (inner := [.int .i64 10, .int .i64 0, .int .i64 0, .int .i64 0, .int .i64 0, .int .i64 0, .int .i64 11, .int .i64 0, .int .i64 2, .int .i64 0, .int .i64 0, .int .i64 0]) ?hrun (reps_ins [⟨10, 0, 0, 0, 0, 0⟩, ⟨11, 0, 2, 0, 0, 0⟩]) (by first | decide | simp) ?_); (case hrun => first | (go_simp; done) | (go_simp; rfl)); clear HS; intro gm w HS) | ((with_reducible refine gate_builtin (b := .append) (xs := #[.tmp 46, .tmp 49]) rfl ?_); go_must (refine ev_append k48 HS 1 (.tmp 46) (.tmp 49) 22 48 (.agg #[.int .i64 0, .int .i64 0, .int .i64 0, .int .i64 0, .int .i64 0, .int .i64 0]) 48 rfl (HS.C 0 rfl) (fun _ _ h => h) rfl rfl rfl rfl Try.underlying22 info_ins rfl (by decide) (by omega) (by simp only [List.length_append, gNums_length, gC0, List.length_cons, List.length_nil]; omega) ?_); clear HS; intro v1 w HS; obtain ⟨Ac, cc, rfl⟩ := HS.slice 1 rfl; rw [gC_eq] at HS ⊢))
        replace HS : Sat W w [row k48 48 (.slice Ac (gC false i).length cc) (gC false i), old W] := HS.tail
        have hcc := (HS.cap 0 rfl).2
        have HRI := Aside0.mk (g_right false i hn)
        have HFI := Aside0.mk (fine_of (ins := []) ⟨500, HRI.out⟩)
        go_upto_region 17 with (go_at_call 11; refine (new_calls (Ac := Ac) (cc := cc) (code := gC false i) (Aa := none) (ca := 0) (arrs := []) (st := 0) (me := 0) (Ai := none) (ci := 0) (ins := []) (fun w h => h.C 0 rfl) hcc (fun w h => nil_C _ _) (Nat.le_refl _) (fun w h => nil_C _ _) HRI HFI.out.lies HFI.out.al HFI.out.m0 HFI.out.m1 HFI.out.cl hwi1 (by omega) HS).mono ?_; rintro e w_ ⟨g, Am, cm, At, ct, rfl, HS_⟩; clear HS; have HS := HS_; clear HS_)
        clear hk hkb HRI hcc HJ
        have HI0 := Aside0.mk (g_inv0 false i)
        have HD1 := Aside0.mk (show Calls Try.prog 15 #[.pointer (some ⟨g, 0, none⟩), .agg #[.int .i64 0, .int .i64 0]] w_ (fun e w' => ∃ v, e = .returned v ∧ Sat W w' (row k60 60 v (gD false i win (newX 0 0 [] []) 0).2 :: mch g Am (0 : Int).toNat cm (.slice Ac (gC false i).length cc) (.slice At (sitesF (gC false i) 0).length ct) win (gD false i win (newX 0 0 [] []) 0).1 :: [row IW 3 (.slice At (sitesF (gC false i) 0).length ct) (sitesF (gC false i) 0), row k48 48 (.slice Ac (gC false i).length cc) (gC false i), old W])) from
          deed_calls (fun w h => h.C 1 rfl) (fun w h => h.C 0 rfl) HFI.out.fit (by have := sitesF_len (gC false i) 0; have := HFI.out.cl; omega) (by have := HI0.out.cnt; omega) (by have := HI0.out.len; omega) HS)
        go_upto_region 18 with (go_at_call 15; refine HD1.out.mono ?_; rintro e w_ ⟨v, rfl, HS_⟩; clear HS HD1; have HS := HS_.tail; clear HS_)
        have hi1 := g_inv false i win HI0.out (by omega) 0
        obtain ⟨X1, hX1⟩ : ∃ X, X = (gD false i win (newX 0 0 [] []) 0).1 := ⟨_, rfl⟩
        rw [← hX1] at hi1 HS
        have HI1 := Aside0.mk hi1
        obtain ⟨R2, hR2⟩ : ∃ R, R = gX2 false i win := ⟨_, rfl⟩
        have hE2 : gD false i win X1 1 = R2 := by rw [hR2, hX1]; rfl
        have HD2 := Aside0.mk (show Calls Try.prog 15 #[.pointer (some ⟨g, 0, none⟩), .agg #[.int .i64 1, .int .i64 0]] w_ (fun e w' => ∃ v, e = .returned v ∧ Sat W w' (row k60 60 v R2.2 :: mch g Am (0 : Int).toNat cm (.slice Ac (gC false i).length cc) (.slice At (sitesF (gC false i) 0).length ct) win R2.1 :: [row IW 3 (.slice At (sitesF (gC false i) 0).length ct) (sitesF (gC false i) 0), row k48 48 (.slice Ac (gC false i).length cc) (gC false i), old W])) from by
          rw [← hE2]
          exact deed_calls (fun w h => h.C 1 rfl) (fun w h => h.C 0 rfl) HFI.out.fit (by have := sitesF_len (gC false i) 0; have := HFI.out.cl; omega) (by have := HI1.out.cnt; omega) (by have := HI1.out.len; omega) HS)
        have hi2 := g_inv false i win HI1.out (by omega) 1
        rw [hE2] at hi2
        have HI2 := Aside0.mk hi2
        have hok := gOk1_spec (by have h := g_chk false true i wn hn hw0 hw1; unfold gChk at h; rw [← hwn.out] at h; simp only [Bool.and_eq_true] at h; exact h.1)
        rw [← hR2] at hok
        obtain ⟨k1_, k2_, k3_, k4_, k5_⟩ := hok
        have HK := Aside0.mk (And.intro k1_ (And.intro k2_ (And.intro k3_ (And.intro k4_ k5_))))
        have HR2 := Aside0.mk hR2
        clear hi1 hX1 hR2 hE2 hi2 k1_ k2_ k3_ k4_ k5_
        go_upto_region 19 with (go_at_call 15; refine HD2.out.mono ?_; rintro e w_ ⟨v, rfl, HS_⟩; clear HS HD2; have HS := HS_; clear HS_; obtain ⟨Vo, co, rfl⟩ := HS.slice 0 rfl; rw [HK.out.2.1] at HS ⊢)
        have q5 := HK.out.2.2.2.2
        have q4 := HK.out.2.2.2.1
        clear q4 q5
        go_upto_region 21 with (go_at_call 17; refine (guesses_at (X := R2.1) (by have := HI2.out.cnt; omega) 1 rfl HS).mono ?_; rw [HK.out.1]; rintro e w_ ⟨rfl, HS_⟩; clear HS; have HS := HS_; clear HS_; obtain ⟨ado, rfl, x0, x1, _⟩ := at_T60 (HS.C 0 rfl) 1 (by decide) (by decide); rw [show (rd_T60 R2.2 1).f0 = 3 from HK.out.2.2.1] at x0; obtain ⟨A1_, hA1⟩ : ∃ x, x = (rd_T60 R2.2 1).f1 := ⟨_, rfl⟩; rw [← hA1] at x1; have q4 : decide (A1_ = 1) = false := (by rw [hA1]; exact HK.out.2.2.2.1); have q4b : (A1_ == 1) = false := q4; clear hA1; have HM := mchC HS 1 rfl; have c64 := (HM.2.1 64 (by decide)).trans (stL_pc HM.1); clear HM; obtain ⟨P1_, hP1⟩ : ∃ x, x = R2.1.s.pc := ⟨_, rfl⟩; rw [← hP1] at c64; have q5 : decide (P1_ = 2) = false := (by rw [hP1]; exact HK.out.2.2.2.2); have q5b : (P1_ == 2) = false := q5; clear hP1; replace x0 : w_.cell? ⟨ado.block, ado.off + 3, none⟩ = _ := x0; replace x1 : w_.cell? ⟨ado.block, ado.off + 3 + 1, none⟩ = _ := x1; have x1' : w_.cell? ⟨ado.block, ado.off + 4, none⟩ = _ := x1)
        have hwf : wrap64 ((i : Int) + 1) = (i : Int) + 1 := w64 _ (by omega) (by omega)
        go_upto_region 25 with (fail)
        obtain ⟨F0, hF0⟩ : ∃ F0 : Nat, F0 = gFar false i wn false := ⟨_, rfl⟩
        have hmin : (if win < (i : Int) then win else (i : Int)) = (F0 : Int) := by
          rw [hF0, hwn.out]
          show _ = ((min i wn : Nat) : Int)
          split <;> omega
        rw [hmin]
        clear hmin
        have hF1 : F0 ≤ 40 := by rw [hF0]; show min i wn ≤ 40; omega
        have HF0 := Aside0.mk hF0
        clear hF0
        replace HS : Sat W w_ [mch g Am (0 : Int).toNat cm (.slice Ac (gC false i).length cc) (.slice At (sitesF (gC false i) 0).length ct) win R2.1, row IW 3 (.slice At (sitesF (gC false i) 0).length ct) (sitesF (gC false i) 0), row k48 48 (.slice Ac (gC false i).length cc) (gC false i), old W] := HS.tail
        obtain ⟨E, hE⟩ : ∃ E, E = Go.bits .and .i64 a3 1 := ⟨_, rfl⟩
        have hE01 : E = 0 ∨ E = 1 := by rw [hE, and1]; omega
        have hbE : Go.bits .and .i64 a3 1 = E := hE.symm
        clear hE c64 x0 x1 x1'
        rcases hE01 with rfl | rfl
        · have hrun : gRun false i win 0 F0 R2.1 = true := by
            have h := g_chk false false i wn hn hw0 hw1
            unfold gChk at h
            rw [← hwn.out, ← HF0.out, if_neg (by decide)] at h
            simp only [Bool.and_eq_true] at h
            have h2 := h.2
            rw [← HR2.out] at h2
            exact h2
          have HRUN := Aside0.mk hrun
          clear hrun
          go_upto_region 27 with (fail)
          go_wp2
          go_loopg [15] (F0 + 1) (fun kq v15 w' => ∃ (k : Nat) (X : SM), v15 = .int .i64 (k : Int) ∧ Aside0 (k ≤ F0 ∧ F0 + 1 ≤ kq + k ∧ Inv (gC false i) (beginS 0, startF [] [] 0) (k + 2) X ∧ gRun false i win 0 (F0 - k) X = true) ∧ Aside0 (Sat W w' [mch g Am (0 : Int).toNat cm (.slice Ac (gC false i).length cc) (.slice At (sitesF (gC false i) 0).length ct) win X, row IW 3 (.slice At (sitesF (gC false i) 0).length ct) (sitesF (gC false i) 0), row k48 48 (.slice Ac (gC false i).length cc) (gC false i), old W]))
          case atStart => exact ⟨0, R2.1, rfl, ⟨by omega, by omega, HI2.out, HRUN.out⟩, ⟨HS⟩⟩
          case round =>
            clear HS
            obtain ⟨k, X, rfl, HJ, HS'⟩ := hrel
            have HS := HS'.out
            clear HS'
            cases gk with
            | zero => have := HJ.out; omega
            | succ k2 =>
              obtain ⟨K, hK_⟩ : ∃ K : Int, (k : Int) = K := ⟨_, rfl⟩
              rw [hK_]
              have HKK := Aside0.mk hK_
              by_cases hk : K < (F0 : Int)
              · have c1_ : decide (K < (F0 : Int)) = true := decide_eq_true hk
                have hwk : wrap64 (K + 1) = K + 1 := w64 _ (by omega) (by omega)
                have HIK := Aside0.mk (show k < F0 ∧ k ≤ 40 from ⟨by omega, by omega⟩)
                clear hk hK_
                have hst := gRun_step (k := F0 - (k + 1)) (by have h := HJ.out.2.2.2; rwa [show F0 - k = F0 - (k + 1) + 1 from by have := HIK.out; omega] at h)
                have hiq := g_inv false i win HJ.out.2.2.1 (by have := HIK.out; omega) 0
                obtain ⟨Q, hQ⟩ : ∃ Q, Q = gD false i win X 0 := ⟨_, rfl⟩
                have HDX := Aside0.mk (show Calls Try.prog 15 #[.pointer (some ⟨g, 0, none⟩), .agg #[.int .i64 0, .int .i64 0]] wr (fun e w' => ∃ v, e = .returned v ∧ Sat W w' (row k60 60 v Q.2 :: mch g Am (0 : Int).toNat cm (.slice Ac (gC false i).length cc) (.slice At (sitesF (gC false i) 0).length ct) win Q.1 :: [row IW 3 (.slice At (sitesF (gC false i) 0).length ct) (sitesF (gC false i) 0), row k48 48 (.slice Ac (gC false i).length cc) (gC false i), old W])) from by
                  rw [hQ]
                  exact deed_calls (fun w h => h.C 1 rfl) (fun w h => h.C 0 rfl) HFI.out.fit (by have := sitesF_len (gC false i) 0; have := HFI.out.cl; omega) (by have := HJ.out.2.2.1.cnt; have := HIK.out; omega) (by have := HJ.out.2.2.1.len; have := HIK.out; omega) HS)
                rw [← hQ] at hst hiq
                have HQ := Aside0.mk hQ
                have HST := Aside0.mk hst
                have HIQ := Aside0.mk hiq
                clear hQ hst hiq
                go_wp2_with (first | (go_at_call 15; refine HDX.out.mono ?_; rintro e w_ ⟨v, rfl, HS_⟩; clear HS HDX; have HS := HS_; clear HS_; obtain ⟨Ve, ce, rfl⟩ := HS.slice 0 rfl; rw [HST.out.2.1] at HS ⊢) | (go_at_call 17; refine (guesses_at (X := Q.1) (by have := HIQ.out.cnt; have := HIK.out; omega) 1 rfl HS).mono ?_; rw [HST.out.1]; rintro e w_ ⟨rfl, HS_⟩; clear HS; have HS := HS_; clear HS_))
                go_roundg k2
                case measure => omega
                case rel =>
                  refine ⟨k + 1, Q.1, by rw [← HKK.out]; first | rfl | (rw [w64 ((k : Int) + 1) (by omega) (by have := HIK.out; omega)]; rfl), ⟨by have := HIK.out; omega, by have := HJ.out; omega, HIQ.out, HST.out.2.2⟩, ⟨HS.tail⟩⟩
              · have hkb : decide (K < (F0 : Int)) = false := decide_eq_false hk
                have hkF : F0 - k = 0 := by omega
                have HIK := Aside0.mk (show k ≤ 40 from by have := HJ.out.1; omega)
                have hrn := HJ.out.2.2.2
                rw [hkF, gRun] at hrn
                have hok := gOk3_spec hrn
                obtain ⟨Q, hQ⟩ : ∃ Q, Q = gD false i win X 0 := ⟨_, rfl⟩
                rw [← hQ] at hok
                have HOK := Aside0.mk hok
                have hiq := g_inv false i win HJ.out.2.2.1 (by have := HIK.out; omega) 0
                rw [← hQ] at hiq
                have HIQ := Aside0.mk hiq
                have HQ := Aside0.mk hQ
                clear hQ hok hiq hrn hkF hk hK_
                go_upto_region 36 with (first | ((with_reducible refine gate_dst (N := 17) rfl ?_); go_must (refine ev_box HS rfl (N := 17) rfl (cs := #[.int .i64 0, .int .i64 0]) (t := 44) ?hrun ?_); (case hrun => first | (go_simp; done) | (go_simp; rfl)); clear HS; intro gd w HS) | ((with_reducible refine gate_store (t := 44) (p := 17) rfl ?_); go_must (refine ev_store HS 0 rfl rfl 44 (.tmp 17) (.tmp 126) rfl rfl rfl [.int .i64 0, .int .i64 0] ?hx (by kernel_rfl) (by rfl) ?h1 ?_); (case hx => first | rfl | (go_simp; done)); (case h1 => simp [Value.oneCell']); clear HS; intro w HS))
                skip
                replace HS : Sat W w [blk gd 44 #[.int .i64 0, .int .i64 0], mch g Am (0 : Int).toNat cm (.slice Ac (gC false i).length cc) (.slice At (sitesF (gC false i) 0).length ct) win X, row IW 3 (.slice At (sitesF (gC false i) 0).length ct) (sitesF (gC false i) 0), row k48 48 (.slice Ac (gC false i).length cc) (gC false i), old W] := HS
                replace HS := HS.swap
                have HDL := Aside0.mk (show Calls Try.prog 15 #[.pointer (some ⟨g, 0, none⟩), .agg #[.int .i64 0, .int .i64 0]] w (fun e w' => ∃ v, e = .returned v ∧ Sat W w' (row k60 60 v Q.2 :: mch g Am (0 : Int).toNat cm (.slice Ac (gC false i).length cc) (.slice At (sitesF (gC false i) 0).length ct) win Q.1 :: [blk gd 44 #[.int .i64 0, .int .i64 0], row IW 3 (.slice At (sitesF (gC false i) 0).length ct) (sitesF (gC false i) 0), row k48 48 (.slice Ac (gC false i).length cc) (gC false i), old W])) from by
                  rw [HQ.out]
                  exact deed_calls (fun w h => h.C 2 rfl) (fun w h => h.C 1 rfl) HFI.out.fit (by have := sitesF_len (gC false i) 0; have := HFI.out.cl; omega) (by have := HJ.out.2.2.1.cnt; have := HIK.out; omega) (by have := HJ.out.2.2.1.len; have := HIK.out; omega) HS)
                go_upto_region 37 with (first | ((with_reducible refine gate_load (ty := 44) (p := 17) rfl ?_); go_must (refine ev_load HS 1 rfl rfl 44 (.tmp 17) rfl (N := 132) rfl rfl _ Try.underlying44 rfl (by kernel_rfl) ?_)) | (go_at_call 15; refine HDL.out.mono ?_; rintro e w_ ⟨v, rfl, HS_⟩; clear HS HDL; have HS := HS_; clear HS_; obtain ⟨Ve, ce, rfl⟩ := HS.slice 0 rfl; rw [HOK.out.2.1] at HS ⊢))
                have hgu := guesses_at (X := Q.1) (by have := HIQ.out.cnt; have := HIK.out; omega) 1 rfl HS
                rw [HOK.out.1] at hgu
                have HGU := Aside0.mk hgu
                clear hgu
                go_wp2_with (go_at_call 17; refine HGU.out.mono ?_; rintro e w_ ⟨rfl, HS_⟩; clear HS HGU; have HS := HS_; clear HS_; obtain ⟨ado, rfl, x0, _⟩ := at_T60 (HS.C 0 rfl) 0 (by decide) (by decide); rw [show (rd_T60 Q.2 0).f0 = 6 from HOK.out.2.2.1] at x0; replace x0 : w_.cell? ado = _ := x0; have HM := mchC HS 1 rfl; have c64 := (HM.2.1 64 (by decide)).trans (stL_pc HM.1); have c3 := (HM.2.1 3 (by decide)).trans (stL_reg HM.1 3 (by decide)); rw [HOK.out.2.2.2.2.2] at c3; clear HM; rw [show Q.1.s.pc = 2 from of_decide_eq_true HOK.out.2.2.2.2.1] at c64)
                go_ret
                exact ⟨rfl, HS.old 5 rfl⟩
        · have hrun : gRun false i win 3 0 R2.1 = true := by
            have h := g_chk false true i wn hn hw0 hw1
            unfold gChk at h
            rw [← hwn.out, show gFar false i wn true = 0 from rfl, if_pos rfl] at h
            simp only [Bool.and_eq_true] at h
            have h2 := h.2
            rw [← HR2.out] at h2
            exact h2
          have HRUN := Aside0.mk hrun
          clear hrun
          go_upto_region 27 with (fail)
          go_wp2
          go_loopg [15] (0 + 1) (fun kq v15 w' => ∃ (k : Nat) (X : SM), v15 = .int .i64 (k : Int) ∧ Aside0 (k ≤ 0 ∧ 0 + 1 ≤ kq + k ∧ Inv (gC false i) (beginS 0, startF [] [] 0) (k + 2) X ∧ gRun false i win 3 (0 - k) X = true) ∧ Aside0 (Sat W w' [mch g Am (0 : Int).toNat cm (.slice Ac (gC false i).length cc) (.slice At (sitesF (gC false i) 0).length ct) win X, row IW 3 (.slice At (sitesF (gC false i) 0).length ct) (sitesF (gC false i) 0), row k48 48 (.slice Ac (gC false i).length cc) (gC false i), old W]))
          case atStart => exact ⟨0, R2.1, rfl, ⟨by omega, by omega, HI2.out, HRUN.out⟩, ⟨HS⟩⟩
          case round =>
            clear HS
            obtain ⟨k, X, rfl, HJ, HS'⟩ := hrel
            have HS := HS'.out
            clear HS'
            cases gk with
            | zero => have := HJ.out; omega
            | succ k2 =>
              obtain ⟨K, hK_⟩ : ∃ K : Int, (k : Int) = K := ⟨_, rfl⟩
              rw [hK_]
              have HKK := Aside0.mk hK_
              by_cases hk : K < 0
              · have c1_ : decide (K < 0) = true := decide_eq_true hk
                have hwk : wrap64 (K + 1) = K + 1 := w64 _ (by omega) (by omega)
                have HIK := Aside0.mk (show k < 0 ∧ k ≤ 40 from ⟨by omega, by omega⟩)
                clear hk hK_
                have hst := gRun_step (k := 0 - (k + 1)) (by have h := HJ.out.2.2.2; rwa [show 0 - k = 0 - (k + 1) + 1 from by have := HIK.out; omega] at h)
                have hiq := g_inv false i win HJ.out.2.2.1 (by have := HIK.out; omega) 0
                obtain ⟨Q, hQ⟩ : ∃ Q, Q = gD false i win X 0 := ⟨_, rfl⟩
                have HDX := Aside0.mk (show Calls Try.prog 15 #[.pointer (some ⟨g, 0, none⟩), .agg #[.int .i64 0, .int .i64 0]] wr (fun e w' => ∃ v, e = .returned v ∧ Sat W w' (row k60 60 v Q.2 :: mch g Am (0 : Int).toNat cm (.slice Ac (gC false i).length cc) (.slice At (sitesF (gC false i) 0).length ct) win Q.1 :: [row IW 3 (.slice At (sitesF (gC false i) 0).length ct) (sitesF (gC false i) 0), row k48 48 (.slice Ac (gC false i).length cc) (gC false i), old W])) from by
                  rw [hQ]
                  exact deed_calls (fun w h => h.C 1 rfl) (fun w h => h.C 0 rfl) HFI.out.fit (by have := sitesF_len (gC false i) 0; have := HFI.out.cl; omega) (by have := HJ.out.2.2.1.cnt; have := HIK.out; omega) (by have := HJ.out.2.2.1.len; have := HIK.out; omega) HS)
                rw [← hQ] at hst hiq
                have HQ := Aside0.mk hQ
                have HST := Aside0.mk hst
                have HIQ := Aside0.mk hiq
                clear hQ hst hiq
                go_wp2_with (first | (go_at_call 15; refine HDX.out.mono ?_; rintro e w_ ⟨v, rfl, HS_⟩; clear HS HDX; have HS := HS_; clear HS_; obtain ⟨Ve, ce, rfl⟩ := HS.slice 0 rfl; rw [HST.out.2.1] at HS ⊢) | (go_at_call 17; refine (guesses_at (X := Q.1) (by have := HIQ.out.cnt; have := HIK.out; omega) 1 rfl HS).mono ?_; rw [HST.out.1]; rintro e w_ ⟨rfl, HS_⟩; clear HS; have HS := HS_; clear HS_))
                go_roundg k2
                case measure => omega
                case rel =>
                  refine ⟨k + 1, Q.1, by rw [← HKK.out]; first | rfl | (rw [w64 ((k : Int) + 1) (by omega) (by have := HIK.out; omega)]; rfl), ⟨by have := HIK.out; omega, by have := HJ.out; omega, HIQ.out, HST.out.2.2⟩, ⟨HS.tail⟩⟩
              · have hkb : decide (K < 0) = false := decide_eq_false hk
                have hkF : 0 - k = 0 := by omega
                have HIK := Aside0.mk (show k ≤ 40 from by have := HJ.out.1; omega)
                have hrn := HJ.out.2.2.2
                rw [hkF, gRun] at hrn
                have hok := gOk3_spec hrn
                obtain ⟨Q, hQ⟩ : ∃ Q, Q = gD false i win X 3 := ⟨_, rfl⟩
                rw [← hQ] at hok
                have HOK := Aside0.mk hok
                have hiq := g_inv false i win HJ.out.2.2.1 (by have := HIK.out; omega) 3
                rw [← hQ] at hiq
                have HIQ := Aside0.mk hiq
                have HQ := Aside0.mk hQ
                clear hQ hok hiq hrn hkF hk hK_
                go_upto_region 34 with (first | ((with_reducible refine gate_dst (N := 17) rfl ?_); go_must (refine ev_box HS rfl (N := 17) rfl (cs := #[.int .i64 0, .int .i64 0]) (t := 44) ?hrun ?_); (case hrun => first | (go_simp; done) | (go_simp; rfl)); clear HS; intro gd w HS) | ((with_reducible refine gate_store (t := 44) (p := 17) rfl ?_); go_must (refine ev_store HS 0 rfl rfl 44 (.tmp 17) (.tmp 126) rfl rfl rfl [.int .i64 0, .int .i64 0] ?hx (by kernel_rfl) (by rfl) ?h1 ?_); (case hx => first | rfl | (go_simp; done)); (case h1 => simp [Value.oneCell']); clear HS; intro w HS))
                have fg : w.frozen? ⟨gd, 0, none⟩ = false := HS.frozen 0 rfl 0
                have cg := HS.cell 0 rfl
                go_upto_region 36 with (fail)
                replace HS := HS.store 0 rfl 0 (.int .i64 3)
                clear fg cg
                generalize World.setCell w ⟨gd, 0, none⟩ (.int .i64 3) = w at HS ⊢
                replace HS : Sat W w [blk gd 44 #[.int .i64 3, .int .i64 0], mch g Am (0 : Int).toNat cm (.slice Ac (gC false i).length cc) (.slice At (sitesF (gC false i) 0).length ct) win X, row IW 3 (.slice At (sitesF (gC false i) 0).length ct) (sitesF (gC false i) 0), row k48 48 (.slice Ac (gC false i).length cc) (gC false i), old W] := HS
                replace HS := HS.swap
                have HDL := Aside0.mk (show Calls Try.prog 15 #[.pointer (some ⟨g, 0, none⟩), .agg #[.int .i64 3, .int .i64 0]] w (fun e w' => ∃ v, e = .returned v ∧ Sat W w' (row k60 60 v Q.2 :: mch g Am (0 : Int).toNat cm (.slice Ac (gC false i).length cc) (.slice At (sitesF (gC false i) 0).length ct) win Q.1 :: [blk gd 44 #[.int .i64 3, .int .i64 0], row IW 3 (.slice At (sitesF (gC false i) 0).length ct) (sitesF (gC false i) 0), row k48 48 (.slice Ac (gC false i).length cc) (gC false i), old W])) from by
                  rw [HQ.out]
                  exact deed_calls (fun w h => h.C 2 rfl) (fun w h => h.C 1 rfl) HFI.out.fit (by have := sitesF_len (gC false i) 0; have := HFI.out.cl; omega) (by have := HJ.out.2.2.1.cnt; have := HIK.out; omega) (by have := HJ.out.2.2.1.len; have := HIK.out; omega) HS)
                go_upto_region 37 with (first | ((with_reducible refine gate_load (ty := 44) (p := 17) rfl ?_); go_must (refine ev_load HS 1 rfl rfl 44 (.tmp 17) rfl (N := 132) rfl rfl _ Try.underlying44 rfl (by kernel_rfl) ?_)) | (go_at_call 15; refine HDL.out.mono ?_; rintro e w_ ⟨v, rfl, HS_⟩; clear HS HDL; have HS := HS_; clear HS_; obtain ⟨Ve, ce, rfl⟩ := HS.slice 0 rfl; rw [HOK.out.2.1] at HS ⊢))
                have hgu := guesses_at (X := Q.1) (by have := HIQ.out.cnt; have := HIK.out; omega) 1 rfl HS
                rw [HOK.out.1] at hgu
                have HGU := Aside0.mk hgu
                clear hgu
                go_wp2_with (go_at_call 17; refine HGU.out.mono ?_; rintro e w_ ⟨rfl, HS_⟩; clear HS HGU; have HS := HS_; clear HS_; obtain ⟨ado, rfl, x0, _⟩ := at_T60 (HS.C 0 rfl) 0 (by decide) (by decide); rw [show (rd_T60 Q.2 0).f0 = 6 from HOK.out.2.2.1] at x0; replace x0 : w_.cell? ado = _ := x0; have HM := mchC HS 1 rfl; have c64 := (HM.2.1 64 (by decide)).trans (stL_pc HM.1); have c3 := (HM.2.1 3 (by decide)).trans (stL_reg HM.1 3 (by decide)); rw [HOK.out.2.2.2.2.2] at c3; clear HM; rw [show Q.1.s.pc = 2 from of_decide_eq_true HOK.out.2.2.2.2.1] at c64)
                go_ret
                exact ⟨rfl, HS.old 5 rfl⟩

theorem guess_walk (a0 : Bool) (a1 a2 a3 : Int) (W : World) (_ : (Lit.int .i64 a1).wf = true) (_ : (Lit.int .i64 a2).wf = true) (_ : (Lit.int .i64 a3).wf = true) :
    Calls Try.prog 4 #[.bool a0, .int .i64 a1, .int .i64 a2, .int .i64 a3] W fun e W' => e = .returned (.bool true) ∧ Below W.heap.size W W' := by
  obtain ⟨B, hB⟩ : ∃ B, Go.bits .and .i64 a1 15 = B := ⟨_, rfl⟩
  have hB0 : 0 ≤ B := by rw [← hB, and15]; omega
  have hB1 : B ≤ 15 := by rw [← hB, and15]; omega
  obtain ⟨C, hC⟩ : ∃ C, Go.bits .and .i64 a2 31 = C := ⟨_, rfl⟩
  have hC0 : 0 ≤ C := by rw [← hC, and31]; omega
  have hC1 : C ≤ 31 := by rw [← hC, and31]; omega
  have e1 : 1 + B = ((1 + B).toNat : Int) := by omega
  have e2 : C = (C.toNat : Int) := by omega
  cases a0 with
  | true => exact guess_true_ a1 a2 a3 (1 + B).toNat C.toNat B (1 + B) ⟨e1⟩ W hB rfl (by rw [hC]; exact e2) (by omega) (by omega) (by omega)
  | false => exact guess_false_ a1 a2 a3 (1 + B).toNat C.toNat B (1 + B) ⟨e1⟩ W hB rfl (by rw [hC]; exact e2) (by omega) (by omega) (by omega)

end
end Go.Proofs.Ytiafbpbbhgpjkaa.B
