/- The law's own text of statements. -/
import Derived.Test.YtaammdmaldodaaaDoorAstXpr
import Derived.Test.YtaammdmaldodaaaDoorAstStmt
import Derived.Laws.EntriesVeiled
namespace Go.Proofs.YtaammdmaldodaaaDoor.B
open Go.RowKit Go.Proofs.YtaammdmaldodaaaDoor.Mine Go.Proofs.YtaammdmaldodaaaDoor.Sep Go.Proofs.YtaammdmaldodaaaDoorW.PrintWords Go.Proofs.YtaammdmaldodaaaDoorW.PrintLast Go.Proofs.YtaammdmaldodaaaDoorW.PrintMore
set_option linter.unusedVariables false
set_option linter.unusedSimpArgs false
section
variable {P : Program} {ops : Array Oper} {Q : Exit → Act → World → Prop}
/-- A call of a function value that captures variables, in a region that draws its order. -/
theorem goesRC_ (t : Tmp) {oi : Oper} {N : Option Tmp} {a : Act} {w : World} {K : Act → World → Prop} {f : FuncId} {fn : Func} {xs : Array Operand} {ts : Array TypeId} (hf : P.funcs[f]? = some fn) (hname : (fn.name == "runtime.NumGoroutine") = false) (hb : fn.body.isSome = true) (args caps : Array Value)
    (hw : Region.wanted oi (yielded ops a.tmps) = true) (hN : oi.dst = N) (hop : oi.op = .call { callee := .value (.tmp t), args := xs, argTypes := ts }) (hv : a.eval (.tmp t) = .func (.func f) #[] caps) (hargs : xs.map a.eval ++ caps = args)
    (h : Calls P f args w fun e w' => ∃ v, e = .returned v ∧ K (a.put N v) w') : if Region.wanted oi (yielded ops a.tmps) = true then Oper.wp P oi a w K Q else K (a.put N undef) w := by
  refine call_ f args hw hN ?_ h
  have he := enters_ hf hname hb args w
  unfold execOp
  simp [hop, resolve, Deferred.ofValue, invoke, hv, hargs, he]
end
theorem tabN_succ (d : Nat) : tabN d ++ [9] = tabN (d + 1) := by unfold tabN; rw [List.replicate_succ']
theorem txtS_eq (d : Nat) (s : S38) : txtS d s = stN s.f0 (tabN d) s.f2.data.toList ((s.f3.map txtE).getD 0 [63]) ((s.f3.map txtE).getD 1 [63]) (txtSs (d + 1) s.f4) (txtSs (d + 1) s.f5) (decide (s.f5.length = 0)) := by cases s; rw [txtS]
section
variable {W0 w : World} {L : List Chunk} {es : List S31} {g : Nat} {v0 v1 v2 v3 v5 v6 : Value} {A4 : Option Addr} {c4 : Nat}
set_option maxRecDepth 100000 in
set_option maxHeartbeats 8000000 in
theorem stc_no (j i : Int) (hi : (es.length : Int) ≤ i) (n : Nat) (hn : L[n]? = some (blk g 38 #[v0, v1, v2, v3, .slice A4 es.length c4, v5, v6])) (HS : Sat W0 w L) :
    Calls Tryd.prog 35 #[.int .i64 i, .pointer (some ⟨g, 0, none⟩)] w fun r w' => r = .returned (.string (bs [63])) ∧ Below w.heap.size w w' := by
  have c0 : decide (i < (es.length : Int)) = false := decide_eq_false (by omega)
  have cb := HS.cell n hn
  have HB := Aside0.mk (Below.refl w.heap.size w)
  clear HS hn
  go_enter Tryd.func35, Tryd.ntmps35
  go_wp2
  go_ret
  exact ⟨rfl, HB.out⟩
set_option maxRecDepth 100000 in
set_option maxHeartbeats 8000000 in
theorem stc_yes (i : Int) (hG : GL w) (h0 : 0 ≤ i) (hi : i < (es.length : Int)) (hC : Kd.C k31 w A4 es.length es) (hok : okL es) (hsz : ∀ e ∈ es, szE e ≤ MX) (n : Nat) (hn : L[n]? = some (blk g 38 #[v0, v1, v2, v3, .slice A4 es.length c4, v5, v6])) (HS : Sat W0 w L) :
    Calls Tryd.prog 35 #[.int .i64 i, .pointer (some ⟨g, 0, none⟩)] w fun r w' => r = .returned (.string (bs (txtE (rd_T31 es i)))) ∧ Below w.heap.size w w' := by
  obtain ⟨ad, B6, d6, rfl, x0, x1, x2, x3, x4, x5, x6, l6, g6⟩ := at_T31 hC i h0 hi
  have hq : rd_T31 es i = es[i.toNat]'(by omega) := by
    have h := rdE (kids := es) (i := i.toNat) (by omega)
    rw [show ((i.toNat : Nat) : Int) = i by omega] at h
    exact h
  obtain ⟨q, hqq⟩ : ∃ q, q = rd_T31 es i := ⟨_, rfl⟩
  rw [← hqq] at x0 x1 x2 x3 x4 x5 x6 l6 g6 hq ⊢
  have hm : q ∈ es := by rw [hq]; exact List.getElem_mem _
  have HT := Aside0.mk (xpr_calls q w B6 d6 hG (okL_mem hok hm) (hsz q hm) g6 l6)
  have c0 : decide (i < (es.length : Int)) = true := decide_eq_true hi
  have r1 := eq_true h0
  have r2 := eq_true hi
  have cb := HS.cell n hn
  have hl5 : q.f5.length ≤ 9223372036854775807 := g6.2.1
  clear hq hqq hm hok hsz hC l6 g6 HS hn
  go_enter Tryd.func35, Tryd.ntmps35
  go_wp2_with (go_at_call 36; refine HT.out.mono ?_; rintro e w_ ⟨rfl, hb⟩)
  go_ret
  exact ⟨rfl, by assumption⟩
theorem stc_calls (i : Nat) (hG : GL w) (hC : Kd.C k31 w A4 es.length es) (hok : okL es) (hsz : ∀ e ∈ es, szE e ≤ MX) (n : Nat) (hn : L[n]? = some (blk g 38 #[v0, v1, v2, v3, .slice A4 es.length c4, v5, v6])) (HS : Sat W0 w L) :
    Calls Tryd.prog 35 #[.int .i64 (i : Int), .pointer (some ⟨g, 0, none⟩)] w fun r w' => r = .returned (.string (bs ((es.map txtE).getD i [63]))) ∧ Below w.heap.size w w' := by
  by_cases h : i < es.length
  · have h2 := stc_yes (i : Int) hG (by omega) (by omega) hC hok hsz n hn HS
    rw [rdE h] at h2
    rw [List.getD_eq_getElem?_getD, List.getElem?_map, List.getElem?_eq_getElem h]
    exact h2
  · rw [List.getD_eq_getElem?_getD, List.getElem?_map, List.getElem?_eq_none (by omega)]
    exact stc_no 0 (i : Int) (by omega) n hn HS
end
def StsC (l : List S38) : Prop := ∀ (W : World) (d : Nat) (A : Option Addr) (c : Nat), GL W → okSs l → roomSs d l → (txtSs d l).length ≤ BX → Kd.C k38 W A l.length l → l.length ≤ c →
    Calls Tryd.prog 20 #[.slice A l.length c, .string (bs (tabN d))] W fun r w' => r = .returned (.string (bs (txtSs d l))) ∧ Below W.heap.size W w'
set_option maxRecDepth 100000 in
set_option maxHeartbeats 8000000 in
theorem sts_all (l : List S38) (ih : ∀ s ∈ l, StsC s.f4 ∧ StsC s.f5) : StsC l := by
  intro W d A c hG hok hro hbx hC hcap
  have HS := Sat.start W
  have hn := hC.2.1
  obtain ⟨tb, htb⟩ : ∃ tb, tb = tabN d := ⟨_, rfl⟩
  rw [← htb]
  have HTB := Aside0.mk htb
  have HIH := Aside0.mk ih
  have HOK := Aside0.mk hok
  have HRO := Aside0.mk hro
  have HBX := Aside0.mk hbx
  have HC := Aside0.mk hC
  have HG := Aside0.mk hG
  have HN := Aside0.mk (show l.length ≤ 9223372036854775807 from hn)
  clear ih hok hro hbx hC hcap hn htb hG
  go_enter Tryd.func20, Tryd.ntmps20
  go_wp2
  go_loopg [5, 11] (l.length + 1) (fun kq v5 v11 w' => ∃ (i : Nat), v5 = .string (bs (txtSs d (l.take i))) ∧ v11 = .int .i64 (i : Int) ∧ Aside0 (i ≤ l.length ∧ l.length + 1 ≤ kq + i) ∧ Aside0 (Sat W w' [old W]))
  case atStart => exact ⟨0, by rw [List.take_zero, txtSs]; rfl, rfl, ⟨by omega, by omega⟩, ⟨HS⟩⟩
  case round =>
    clear HS
    obtain ⟨i, rfl, rfl, HI, HS'⟩ := hrel
    have HS := HS'.out
    clear HS'
    cases gk with
    | zero => have := HI.out; omega
    | succ k1 =>
      obtain ⟨R, hR⟩ : ∃ R, R = txtSs d (l.take i) := ⟨_, rfl⟩
      rw [← hR]
      by_cases hk : i < l.length
      · obtain ⟨I, hI_⟩ : ∃ I : Int, (i : Int) = I := ⟨_, rfl⟩
        have pI : 0 ≤ I := by omega
        have q1 : I < (l.length : Int) := by omega
        have c1_ : decide (I < (l.length : Int)) = true := decide_eq_true q1
        have hbw := HS.old 0 rfl
        obtain ⟨ad, B4, d4, B5, d5, B6, d6, rfl, x0, x1, x2, x3, x4, x5, x6, l4, g4, l5, g5, l6, g6⟩ := at_T38 HC.out I pI q1
        replace x0 := cell_below x0 hbw
        replace x1 := cell_below x1 hbw
        replace x2 := cell_below x2 hbw
        replace x3 := cell_below x3 hbw
        replace x4 := cell_below x4 hbw
        replace x5 := cell_below x5 hbw
        replace x6 := cell_below x6 hbw
        clear hbw
        have hq : rd_T38 l I = l[i] := by rw [← hI_]; exact rdS hk
        obtain ⟨q, hqq⟩ : ∃ z_, z_ = rd_T38 l I := ⟨_, rfl⟩
        rw [← hqq] at x0 x1 x2 x3 x4 x5 x6 l4 g4 l5 g5 l6 g6 hq
        have hmem : q ∈ l := by rw [hq]; exact List.getElem_mem hk
        obtain ⟨hih4, hih5⟩ := HIH.out q hmem
        have hokq := okSs_mem HOK.out hmem
        have hroq := roomSs_mem HRO.out hmem
        have hQ : txtSs d (l.take (i + 1)) = R ++ txtS d q := by rw [txt_take d hk, hR, hq]
        have hlen : R.length + (txtS d q).length ≤ BX := by
          have h1 := txt_take_le d l (i + 1)
          rw [hQ, List.length_append] at h1
          have := HBX.out
          omega
        have hokp : okL q.f3 ∧ okSs q.f4 ∧ okSs q.f5 := by cases q; rw [okS] at hokq; exact hokq
        have hrop : q.f2.data.toList.length ≤ MX ∧ (∀ e ∈ q.f3, szE e ≤ MX) ∧ ((txtSs (d + 1) q.f4).length ≤ BX ∧ roomSs (d + 1) q.f4) ∧ ((txtSs (d + 1) q.f5).length ≤ BX ∧ roomSs (d + 1) q.f5) := by cases q; rw [roomS] at hroq; exact hroq.2
        have hltb : tb.length ≤ MX := by
          have h0 : d + 1 ≤ MX := by cases q; rw [roomS] at hroq; exact hroq.1
          rw [HTB.out]; unfold tabN; rw [List.length_replicate]; omega
        obtain ⟨nm, hnm⟩ : ∃ nm, q.f2 = bs nm := ⟨q.f2.data.toList, rfl⟩
        have hnl : nm.length ≤ MX := by have := hrop.1; rw [hnm] at this; exact this
        rw [hnm] at x3
        rw [txtS_eq, hnm] at hQ
        have hQ' : txtSs d (l.take (i + 1)) = R ++ stN q.f0 tb nm ((q.f3.map txtE).getD 0 [63]) ((q.f3.map txtE).getD 1 [63]) (txtSs (d + 1) q.f4) (txtSs (d + 1) q.f5) (decide (q.f5.length = 0)) := by rw [HTB.out]; exact hQ
        have HS0 := fun (k : Nat) (w : World) (g : Nat) (h : Sat W w [blk g 38 #[.int .i64 q.f0, .int .i64 q.f1.f0, .int .i64 q.f1.f1, .string (bs nm), .slice B4 q.f3.length d4, .slice B5 q.f4.length d5, .slice B6 q.f5.length d6], old W]) => stc_calls (es := q.f3) k (HG.out.below (h.old 1 rfl)) (Kd.C_below g4 (h.old 1 rfl)) hokp.1 hrop.2.1 0 rfl h
        have HTH := Aside0.mk (fun (w : World) (hb : Below W.heap.size W w) => hih4 w (d + 1) B5 d5 (HG.out.below hb) hokp.2.1 hrop.2.2.1.2 hrop.2.2.1.1 (Kd.C_below g5 hb) l5)
        have HTE := Aside0.mk (fun (w : World) (hb : Below W.heap.size W w) => hih5 w (d + 1) B6 d6 (HG.out.below hb) hokp.2.2 hrop.2.2.2.2 hrop.2.2.2.1 (Kd.C_below g6 hb) l6)
        have HC0 := Aside0.mk (HS0 0)
        have HC1 := Aside0.mk (HS0 1)
        clear HS0
        have la := at_len (i := 0) hokp.1 hrop.2.1
        have lb := at_len (i := 1) hokp.1 hrop.2.1
        have ltt := hrop.2.2.1.1
        have lte := hrop.2.2.2.1
        have hRl : R.length ≤ BX := by omega
        rw [← tabN_succ, ← HTB.out] at HTH HTE
        obtain ⟨a, ha⟩ : ∃ a, a = (q.f3.map txtE).getD 0 [63] := ⟨_, rfl⟩
        obtain ⟨b, hb_⟩ : ∃ b, b = (q.f3.map txtE).getD 1 [63] := ⟨_, rfl⟩
        obtain ⟨tt, ht_⟩ : ∃ tt, tt = txtSs (d + 1) q.f4 := ⟨_, rfl⟩
        obtain ⟨te, he_⟩ : ∃ te, te = txtSs (d + 1) q.f5 := ⟨_, rfl⟩
        simp only [← ha] at HC0 la hQ'
        simp only [← hb_] at HC1 lb hQ'
        simp only [← ht_] at HTH ltt hQ'
        simp only [← he_] at HTE lte hQ'
        have HQ := Aside0.mk hQ'
        have hwi : wrap64 (I + 1) = I + 1 := w64 _ (by omega) (by have := HN.out; omega)
        have HII := Aside0.mk (show (i : Int) = I ∧ i < l.length from ⟨hI_, hk⟩)
        have hql4 : q.f3.length ≤ 9223372036854775807 := g4.2.1
        have hql5 : q.f4.length ≤ 9223372036854775807 := g5.2.1
        have hql6 : q.f5.length ≤ 9223372036854775807 := g6.2.1
        rw [hI_]
        clear ha hb_ ht_ he_ hQ hQ' hq hqq hmem hih4 hih5 hokq hroq hlen hokp hrop hnm hI_ hk g4 g5 g6 l4 l5 l6 hR
        have r1 := eq_true pI
        have r2 := eq_true q1
        go_upto_region 5 with (first | ((with_reducible refine gate_dst (N := 7) rfl ?_); go_must (refine ev_box HS rfl (N := 7) rfl (cs := #[.int .i64 0, .int .i64 0, .int .i64 0, .string ⟨#[]⟩, .slice none 0 0, .slice none 0 0, .slice none 0 0]) (t := 38) ?hrun ?_); (case hrun => first | (go_simp; done) | (go_simp; rfl)); clear HS; intro gq w HS) | ((with_reducible refine gate_store (t := 38) (p := 7) rfl ?_); go_must (refine ev_store HS 0 rfl rfl 38 (.tmp 7) (.tmp 14) rfl rfl rfl [.int .i64 q.f0, .int .i64 q.f1.f0, .int .i64 q.f1.f1, .string (bs nm), .slice B4 q.f3.length d4, .slice B5 q.f4.length d5, .slice B6 q.f5.length d6] ?hx (by kernel_rfl) (by rfl) ?h1 ?_); (case hx => first | rfl | (go_simp; done)); (case h1 => simp [Value.oneCell']); clear HS; intro w HS))
        clear x0 x1 x2 x3 x4 x5 x6
        replace HS : Sat W _ [blk gq 38 #[.int .i64 q.f0, .int .i64 q.f1.f0, .int .i64 q.f1.f1, .string (bs nm), .slice B4 q.f3.length d4, .slice B5 q.f4.length d5, .slice B6 q.f5.length d6], old W] := HS
        have cb := HS.cell 0 rfl
        by_cases h1 : q.f0 = 1
        · have b1 : (q.f0 == 1) = true := beq_iff_eq.2 h1
          have HK := Aside0.mk h1
          clear h1
          go_upto_region 10 with (first | ((with_reducible refine gate_bin (b := .add) (t := 9) (t' := 9) rfl ?_); go_must (refine ev_cat Tryd.underlying9 rfl rfl rfl rfl rfl (by (try simp only [List.length_append, List.length_cons, List.length_nil]); have := mx_le; have := bx_le; omega) ?_)))
          skip
          refine start_ (n := 11) (S := fun w' => Sat W w' [blk gq 38 #[.int .i64 q.f0, .int .i64 q.f1.f0, .int .i64 q.f1.f1, .string (bs nm), .slice B4 q.f3.length d4, .slice B5 q.f4.length d5, .slice B6 q.f5.length d6], old W]) (ds := []) #[false, false, false, false, false, false, false, false, false, false, false] (by kernel_rfl) rfl rfl HS.drew (fun hHeld => ?_)
          replace HS := HS.drew
          generalize World.drew w = w at HS hHeld ⊢
          refine pure_ (i := 0) (N := some 28) (v := ?_) (a' := ?_) #[true, false, false, false, false, false, false, false, false, false, false] rfl rfl (by kernel_rfl) (fun _ _ _ h => h) (Or.inl ⟨by rfl, ?_⟩) ?_ ?_
          rotate_left
          · intro w'
            go_simp
            with_reducible rfl
          rotate_left
          · (try simp only [Act.put, List.setIfInBounds_toArray, List.set_cons_zero, List.set_cons_succ, i64_w, i32_w])
            rfl
          refine pure_ (i := 1) (N := some 29) (v := .string (bs ((R ++ tb) ++ ([108, 101, 116, 32])))) (a' := ?_) #[true, true, false, false, false, false, false, false, false, false, false] rfl rfl (by kernel_rfl) (fun _ _ _ h => h) (Or.inl ⟨by rfl, ?_⟩) ?_ ?_
          · intro w'
            exact run_cat (t := 9) (t' := 9) (p := R ++ tb) (q := [108, 101, 116, 32]) Tryd.underlying9 rfl rfl rfl (by (try simp only [List.length_append, List.length_cons, List.length_nil]); have := mx_le; have := bx_le; omega) w'
          rotate_left
          · (try simp only [Act.put, List.setIfInBounds_toArray, List.set_cons_zero, List.set_cons_succ, i64_w, i32_w])
            rfl
          refine pure_ (i := 2) (N := some 30) (v := ?_) (a' := ?_) #[true, true, true, false, false, false, false, false, false, false, false] rfl rfl (by kernel_rfl) (fun _ _ _ h => h) (Or.inl ⟨by rfl, ?_⟩) ?_ ?_
          rotate_left
          · intro w'
            go_simp
            with_reducible rfl
          rotate_left
          · (try simp only [Act.put, List.setIfInBounds_toArray, List.set_cons_zero, List.set_cons_succ, i64_w, i32_w])
            rfl
          refine take_ (i := 3) (N := some 31) (v := ?_) (a' := ?_) #[true, true, true, true, false, false, false, false, false, false, false] rfl rfl (by kernel_rfl) (fun _ _ _ h => h) (Or.inl ⟨by rfl, ?_⟩) hHeld ?_ ?_
          rotate_left
          · rintro w' hS
            have cb := hS.cell 0 rfl
            go_simp
            with_reducible rfl
          rotate_left
          · (try simp only [Act.put, List.setIfInBounds_toArray, List.set_cons_zero, List.set_cons_succ, i64_w, i32_w])
            rfl
          refine pure_ (i := 4) (N := some 32) (v := .string (bs ((R ++ tb ++ [108, 101, 116, 32]) ++ (nm)))) (a' := ?_) #[true, true, true, true, true, false, false, false, false, false, false] rfl rfl (by kernel_rfl) (fun _ _ _ h => h) (Or.inl ⟨by rfl, ?_⟩) ?_ ?_
          · intro w'
            exact run_cat (t := 9) (t' := 9) (p := R ++ tb ++ [108, 101, 116, 32]) (q := nm) Tryd.underlying9 rfl rfl rfl (by (try simp only [List.length_append, List.length_cons, List.length_nil]); have := mx_le; have := bx_le; omega) w'
          rotate_left
          · (try simp only [Act.put, List.setIfInBounds_toArray, List.set_cons_zero, List.set_cons_succ, i64_w, i32_w])
            rfl
          refine pure_ (i := 5) (N := some 33) (v := .string (bs ((R ++ tb ++ [108, 101, 116, 32] ++ nm) ++ ([32, 61, 32])))) (a' := ?_) #[true, true, true, true, true, true, false, false, false, false, false] rfl rfl (by kernel_rfl) (fun _ _ _ h => h) (Or.inl ⟨by rfl, ?_⟩) ?_ ?_
          · intro w'
            exact run_cat (t := 9) (t' := 9) (p := R ++ tb ++ [108, 101, 116, 32] ++ nm) (q := [32, 61, 32]) Tryd.underlying9 rfl rfl rfl (by (try simp only [List.length_append, List.length_cons, List.length_nil]); have := mx_le; have := bx_le; omega) w'
          rotate_left
          · (try simp only [Act.put, List.setIfInBounds_toArray, List.set_cons_zero, List.set_cons_succ, i64_w, i32_w])
            rfl
          refine pure_ (i := 6) (N := some 34) (v := ?_) (a' := ?_) #[true, true, true, true, true, true, true, false, false, false, false] rfl rfl (by kernel_rfl) (fun _ _ _ h => h) (Or.inl ⟨by rfl, ?_⟩) ?_ ?_
          rotate_left
          · intro w'
            go_simp
            with_reducible rfl
          rotate_left
          · (try simp only [Act.put, List.setIfInBounds_toArray, List.set_cons_zero, List.set_cons_succ, i64_w, i32_w])
            rfl
          refine one_ (i := 7) (N := some 35) #[true, true, true, true, true, true, true, true, false, false, false] rfl rfl (by kernel_rfl) (by decide) (fun K hK => ?_)
          refine goesRC_ 34 Tryd.func35 (by kernel_rfl) rfl #[.int .i64 0, .pointer (some ⟨gq, 0, none⟩)] #[.pointer (some ⟨gq, 0, none⟩)] (by rfl) rfl rfl rfl (by (try simp only [List.map_toArray, List.map_cons, List.map_nil]); first | done | rfl) ?_
          refine (HC0.out _ _ HS).mono ?_
          rintro e w_ ⟨rfl, hb⟩
          refine ⟨_, rfl, ?_⟩
          replace HS := HS.below hb
          clear hb
          refine hK.out _ _ HS (fun hHeld => ?_)
          clear hK K
          refine norm_ (a' := ?_) ?_ ?_
          rotate_left
          · show Act.put _ _ _ = _
            (try simp only [Act.put, List.setIfInBounds_toArray, List.set_cons_zero, List.set_cons_succ, i64_w, i32_w])
            rfl
          refine pure_ (i := 8) (N := some 36) (v := .string (bs ((R ++ tb ++ [108, 101, 116, 32] ++ nm ++ [32, 61, 32]) ++ (a)))) (a' := ?_) #[true, true, true, true, true, true, true, true, true, false, false] rfl rfl (by kernel_rfl) (fun _ _ _ h => h) (Or.inl ⟨by rfl, ?_⟩) ?_ ?_
          · intro w'
            exact run_cat (t := 9) (t' := 9) (p := R ++ tb ++ [108, 101, 116, 32] ++ nm ++ [32, 61, 32]) (q := a) Tryd.underlying9 rfl rfl rfl (by (try simp only [List.length_append, List.length_cons, List.length_nil]); have := mx_le; have := bx_le; omega) w'
          rotate_left
          · (try simp only [Act.put, List.setIfInBounds_toArray, List.set_cons_zero, List.set_cons_succ, i64_w, i32_w])
            rfl
          refine pure_ (i := 9) (N := some 37) (v := .string (bs ((R ++ tb ++ [108, 101, 116, 32] ++ nm ++ [32, 61, 32] ++ a) ++ ([59])))) (a' := ?_) #[true, true, true, true, true, true, true, true, true, true, false] rfl rfl (by kernel_rfl) (fun _ _ _ h => h) (Or.inl ⟨by rfl, ?_⟩) ?_ ?_
          · intro w'
            exact run_cat (t := 9) (t' := 9) (p := R ++ tb ++ [108, 101, 116, 32] ++ nm ++ [32, 61, 32] ++ a) (q := [59]) Tryd.underlying9 rfl rfl rfl (by (try simp only [List.length_append, List.length_cons, List.length_nil]); have := mx_le; have := bx_le; omega) w'
          rotate_left
          · (try simp only [Act.put, List.setIfInBounds_toArray, List.set_cons_zero, List.set_cons_succ, i64_w, i32_w])
            rfl
          refine pure_ (i := 10) (N := some 5) (v := ?_) (a' := ?_) #[true, true, true, true, true, true, true, true, true, true, true] rfl rfl (by kernel_rfl) (fun _ _ _ h => h) (Or.inl ⟨by rfl, ?_⟩) ?_ ?_
          rotate_left
          · intro w'
            go_simp
            with_reducible rfl
          rotate_left
          · (try simp only [Act.put, List.setIfInBounds_toArray, List.set_cons_zero, List.set_cons_succ, i64_w, i32_w])
            rfl
          refine done_ (by kernel_rfl) ?_
          clear hHeld
          clear cb
          have cb := HS.cell 0 rfl
          go_wp2_with (first | (go_at_call 35; refine (HC0.out _ _ HS).mono ?_; rintro e w_ ⟨rfl, hb⟩; replace HS := HS.below hb; clear hb) | (go_at_call 20; refine (HTE.out _ (HS.old 1 rfl)).mono ?_; rintro e w_ ⟨rfl, hb⟩; replace HS := HS.below hb; clear hb cb; have cb := HS.cell 0 rfl) | ((with_reducible refine gate_bin (b := .add) (t := 9) (t' := 9) rfl ?_); go_must (refine ev_cat Tryd.underlying9 rfl rfl rfl rfl rfl (by (try simp only [List.length_append, List.length_cons, List.length_nil]); have := mx_le; have := bx_le; omega) ?_)))
          go_roundg k1
          case measure => exact Nat.lt_succ_self _
          case rel =>
            have h1 := HII.out
            have h2 := HI.out
            refine ⟨i + 1, ?_, by rw [hwi, ← h1.1]; rfl, ⟨by omega, by omega⟩, ⟨HS.tail⟩⟩
            rw [HQ.out, HK.out, stN1]
            simp
        have b1 : (q.f0 == 1) = false := beq_eq_false_iff_ne.2 h1
        by_cases h2 : q.f0 = 2
        · have b2 : (q.f0 == 2) = true := beq_iff_eq.2 h2
          have HK := Aside0.mk h2
          clear h2
          go_upto_region 12 with (first | ((with_reducible refine gate_bin (b := .add) (t := 9) (t' := 9) rfl ?_); go_must (refine ev_cat Tryd.underlying9 rfl rfl rfl rfl rfl (by (try simp only [List.length_append, List.length_cons, List.length_nil]); have := mx_le; have := bx_le; omega) ?_)))
          skip
          refine start_ (n := 10) (S := fun w' => Sat W w' [blk gq 38 #[.int .i64 q.f0, .int .i64 q.f1.f0, .int .i64 q.f1.f1, .string (bs nm), .slice B4 q.f3.length d4, .slice B5 q.f4.length d5, .slice B6 q.f5.length d6], old W]) (ds := []) #[false, false, false, false, false, false, false, false, false, false] (by kernel_rfl) rfl rfl HS.drew (fun hHeld => ?_)
          replace HS := HS.drew
          generalize World.drew w = w at HS hHeld ⊢
          refine pure_ (i := 0) (N := some 40) (v := ?_) (a' := ?_) #[true, false, false, false, false, false, false, false, false, false] rfl rfl (by kernel_rfl) (fun _ _ _ h => h) (Or.inl ⟨by rfl, ?_⟩) ?_ ?_
          rotate_left
          · intro w'
            go_simp
            with_reducible rfl
          rotate_left
          · (try simp only [Act.put, List.setIfInBounds_toArray, List.set_cons_zero, List.set_cons_succ, i64_w, i32_w])
            rfl
          refine pure_ (i := 1) (N := some 41) (v := ?_) (a' := ?_) #[true, true, false, false, false, false, false, false, false, false] rfl rfl (by kernel_rfl) (fun _ _ _ h => h) (Or.inl ⟨by rfl, ?_⟩) ?_ ?_
          rotate_left
          · intro w'
            go_simp
            with_reducible rfl
          rotate_left
          · (try simp only [Act.put, List.setIfInBounds_toArray, List.set_cons_zero, List.set_cons_succ, i64_w, i32_w])
            rfl
          refine take_ (i := 2) (N := some 42) (v := ?_) (a' := ?_) #[true, true, true, false, false, false, false, false, false, false] rfl rfl (by kernel_rfl) (fun _ _ _ h => h) (Or.inl ⟨by rfl, ?_⟩) hHeld ?_ ?_
          rotate_left
          · rintro w' hS
            have cb := hS.cell 0 rfl
            go_simp
            with_reducible rfl
          rotate_left
          · (try simp only [Act.put, List.setIfInBounds_toArray, List.set_cons_zero, List.set_cons_succ, i64_w, i32_w])
            rfl
          refine pure_ (i := 3) (N := some 43) (v := .string (bs ((R ++ tb) ++ (nm)))) (a' := ?_) #[true, true, true, true, false, false, false, false, false, false] rfl rfl (by kernel_rfl) (fun _ _ _ h => h) (Or.inl ⟨by rfl, ?_⟩) ?_ ?_
          · intro w'
            exact run_cat (t := 9) (t' := 9) (p := R ++ tb) (q := nm) Tryd.underlying9 rfl rfl rfl (by (try simp only [List.length_append, List.length_cons, List.length_nil]); have := mx_le; have := bx_le; omega) w'
          rotate_left
          · (try simp only [Act.put, List.setIfInBounds_toArray, List.set_cons_zero, List.set_cons_succ, i64_w, i32_w])
            rfl
          refine pure_ (i := 4) (N := some 44) (v := .string (bs ((R ++ tb ++ nm) ++ ([32, 61, 32])))) (a' := ?_) #[true, true, true, true, true, false, false, false, false, false] rfl rfl (by kernel_rfl) (fun _ _ _ h => h) (Or.inl ⟨by rfl, ?_⟩) ?_ ?_
          · intro w'
            exact run_cat (t := 9) (t' := 9) (p := R ++ tb ++ nm) (q := [32, 61, 32]) Tryd.underlying9 rfl rfl rfl (by (try simp only [List.length_append, List.length_cons, List.length_nil]); have := mx_le; have := bx_le; omega) w'
          rotate_left
          · (try simp only [Act.put, List.setIfInBounds_toArray, List.set_cons_zero, List.set_cons_succ, i64_w, i32_w])
            rfl
          refine pure_ (i := 5) (N := some 45) (v := ?_) (a' := ?_) #[true, true, true, true, true, true, false, false, false, false] rfl rfl (by kernel_rfl) (fun _ _ _ h => h) (Or.inl ⟨by rfl, ?_⟩) ?_ ?_
          rotate_left
          · intro w'
            go_simp
            with_reducible rfl
          rotate_left
          · (try simp only [Act.put, List.setIfInBounds_toArray, List.set_cons_zero, List.set_cons_succ, i64_w, i32_w])
            rfl
          refine one_ (i := 6) (N := some 46) #[true, true, true, true, true, true, true, false, false, false] rfl rfl (by kernel_rfl) (by decide) (fun K hK => ?_)
          refine goesRC_ 45 Tryd.func35 (by kernel_rfl) rfl #[.int .i64 0, .pointer (some ⟨gq, 0, none⟩)] #[.pointer (some ⟨gq, 0, none⟩)] (by rfl) rfl rfl rfl (by (try simp only [List.map_toArray, List.map_cons, List.map_nil]); first | done | rfl) ?_
          refine (HC0.out _ _ HS).mono ?_
          rintro e w_ ⟨rfl, hb⟩
          refine ⟨_, rfl, ?_⟩
          replace HS := HS.below hb
          clear hb
          refine hK.out _ _ HS (fun hHeld => ?_)
          clear hK K
          refine norm_ (a' := ?_) ?_ ?_
          rotate_left
          · show Act.put _ _ _ = _
            (try simp only [Act.put, List.setIfInBounds_toArray, List.set_cons_zero, List.set_cons_succ, i64_w, i32_w])
            rfl
          refine pure_ (i := 7) (N := some 47) (v := .string (bs ((R ++ tb ++ nm ++ [32, 61, 32]) ++ (a)))) (a' := ?_) #[true, true, true, true, true, true, true, true, false, false] rfl rfl (by kernel_rfl) (fun _ _ _ h => h) (Or.inl ⟨by rfl, ?_⟩) ?_ ?_
          · intro w'
            exact run_cat (t := 9) (t' := 9) (p := R ++ tb ++ nm ++ [32, 61, 32]) (q := a) Tryd.underlying9 rfl rfl rfl (by (try simp only [List.length_append, List.length_cons, List.length_nil]); have := mx_le; have := bx_le; omega) w'
          rotate_left
          · (try simp only [Act.put, List.setIfInBounds_toArray, List.set_cons_zero, List.set_cons_succ, i64_w, i32_w])
            rfl
          refine pure_ (i := 8) (N := some 48) (v := .string (bs ((R ++ tb ++ nm ++ [32, 61, 32] ++ a) ++ ([59])))) (a' := ?_) #[true, true, true, true, true, true, true, true, true, false] rfl rfl (by kernel_rfl) (fun _ _ _ h => h) (Or.inl ⟨by rfl, ?_⟩) ?_ ?_
          · intro w'
            exact run_cat (t := 9) (t' := 9) (p := R ++ tb ++ nm ++ [32, 61, 32] ++ a) (q := [59]) Tryd.underlying9 rfl rfl rfl (by (try simp only [List.length_append, List.length_cons, List.length_nil]); have := mx_le; have := bx_le; omega) w'
          rotate_left
          · (try simp only [Act.put, List.setIfInBounds_toArray, List.set_cons_zero, List.set_cons_succ, i64_w, i32_w])
            rfl
          refine pure_ (i := 9) (N := some 5) (v := ?_) (a' := ?_) #[true, true, true, true, true, true, true, true, true, true] rfl rfl (by kernel_rfl) (fun _ _ _ h => h) (Or.inl ⟨by rfl, ?_⟩) ?_ ?_
          rotate_left
          · intro w'
            go_simp
            with_reducible rfl
          rotate_left
          · (try simp only [Act.put, List.setIfInBounds_toArray, List.set_cons_zero, List.set_cons_succ, i64_w, i32_w])
            rfl
          refine done_ (by kernel_rfl) ?_
          clear hHeld
          clear cb
          have cb := HS.cell 0 rfl
          go_wp2_with (first | (go_at_call 35; refine (HC0.out _ _ HS).mono ?_; rintro e w_ ⟨rfl, hb⟩; replace HS := HS.below hb; clear hb) | (go_at_call 20; refine (HTE.out _ (HS.old 1 rfl)).mono ?_; rintro e w_ ⟨rfl, hb⟩; replace HS := HS.below hb; clear hb cb; have cb := HS.cell 0 rfl) | ((with_reducible refine gate_bin (b := .add) (t := 9) (t' := 9) rfl ?_); go_must (refine ev_cat Tryd.underlying9 rfl rfl rfl rfl rfl (by (try simp only [List.length_append, List.length_cons, List.length_nil]); have := mx_le; have := bx_le; omega) ?_)))
          go_roundg k1
          case measure => exact Nat.lt_succ_self _
          case rel =>
            have h1 := HII.out
            have h2 := HI.out
            refine ⟨i + 1, ?_, by rw [hwi, ← h1.1]; rfl, ⟨by omega, by omega⟩, ⟨HS.tail⟩⟩
            rw [HQ.out, HK.out, stN2]
            simp
        have b2 : (q.f0 == 2) = false := beq_eq_false_iff_ne.2 h2
        by_cases h3 : q.f0 = 3
        · have b3 : (q.f0 == 3) = true := beq_iff_eq.2 h3
          have HK := Aside0.mk h3
          clear h3
          go_upto_region 14 with (first | ((with_reducible refine gate_bin (b := .add) (t := 9) (t' := 9) rfl ?_); go_must (refine ev_cat Tryd.underlying9 rfl rfl rfl rfl rfl (by (try simp only [List.length_append, List.length_cons, List.length_nil]); have := mx_le; have := bx_le; omega) ?_)))
          skip
          refine start_ (n := 14) (S := fun w' => Sat W w' [blk gq 38 #[.int .i64 q.f0, .int .i64 q.f1.f0, .int .i64 q.f1.f1, .string (bs nm), .slice B4 q.f3.length d4, .slice B5 q.f4.length d5, .slice B6 q.f5.length d6], old W]) (ds := []) #[false, false, false, false, false, false, false, false, false, false, false, false, false, false] (by kernel_rfl) rfl rfl HS.drew (fun hHeld => ?_)
          replace HS := HS.drew
          generalize World.drew w = w at HS hHeld ⊢
          refine pure_ (i := 0) (N := some 51) (v := ?_) (a' := ?_) #[true, false, false, false, false, false, false, false, false, false, false, false, false, false] rfl rfl (by kernel_rfl) (fun _ _ _ h => h) (Or.inl ⟨by rfl, ?_⟩) ?_ ?_
          rotate_left
          · intro w'
            go_simp
            with_reducible rfl
          rotate_left
          · (try simp only [Act.put, List.setIfInBounds_toArray, List.set_cons_zero, List.set_cons_succ, i64_w, i32_w])
            rfl
          refine pure_ (i := 1) (N := some 52) (v := ?_) (a' := ?_) #[true, true, false, false, false, false, false, false, false, false, false, false, false, false] rfl rfl (by kernel_rfl) (fun _ _ _ h => h) (Or.inl ⟨by rfl, ?_⟩) ?_ ?_
          rotate_left
          · intro w'
            go_simp
            with_reducible rfl
          rotate_left
          · (try simp only [Act.put, List.setIfInBounds_toArray, List.set_cons_zero, List.set_cons_succ, i64_w, i32_w])
            rfl
          refine take_ (i := 2) (N := some 53) (v := ?_) (a' := ?_) #[true, true, true, false, false, false, false, false, false, false, false, false, false, false] rfl rfl (by kernel_rfl) (fun _ _ _ h => h) (Or.inl ⟨by rfl, ?_⟩) hHeld ?_ ?_
          rotate_left
          · rintro w' hS
            have cb := hS.cell 0 rfl
            go_simp
            with_reducible rfl
          rotate_left
          · (try simp only [Act.put, List.setIfInBounds_toArray, List.set_cons_zero, List.set_cons_succ, i64_w, i32_w])
            rfl
          refine pure_ (i := 3) (N := some 54) (v := .string (bs ((R ++ tb) ++ (nm)))) (a' := ?_) #[true, true, true, true, false, false, false, false, false, false, false, false, false, false] rfl rfl (by kernel_rfl) (fun _ _ _ h => h) (Or.inl ⟨by rfl, ?_⟩) ?_ ?_
          · intro w'
            exact run_cat (t := 9) (t' := 9) (p := R ++ tb) (q := nm) Tryd.underlying9 rfl rfl rfl (by (try simp only [List.length_append, List.length_cons, List.length_nil]); have := mx_le; have := bx_le; omega) w'
          rotate_left
          · (try simp only [Act.put, List.setIfInBounds_toArray, List.set_cons_zero, List.set_cons_succ, i64_w, i32_w])
            rfl
          refine pure_ (i := 4) (N := some 55) (v := .string (bs ((R ++ tb ++ nm) ++ ([91])))) (a' := ?_) #[true, true, true, true, true, false, false, false, false, false, false, false, false, false] rfl rfl (by kernel_rfl) (fun _ _ _ h => h) (Or.inl ⟨by rfl, ?_⟩) ?_ ?_
          · intro w'
            exact run_cat (t := 9) (t' := 9) (p := R ++ tb ++ nm) (q := [91]) Tryd.underlying9 rfl rfl rfl (by (try simp only [List.length_append, List.length_cons, List.length_nil]); have := mx_le; have := bx_le; omega) w'
          rotate_left
          · (try simp only [Act.put, List.setIfInBounds_toArray, List.set_cons_zero, List.set_cons_succ, i64_w, i32_w])
            rfl
          refine pure_ (i := 5) (N := some 56) (v := ?_) (a' := ?_) #[true, true, true, true, true, true, false, false, false, false, false, false, false, false] rfl rfl (by kernel_rfl) (fun _ _ _ h => h) (Or.inl ⟨by rfl, ?_⟩) ?_ ?_
          rotate_left
          · intro w'
            go_simp
            with_reducible rfl
          rotate_left
          · (try simp only [Act.put, List.setIfInBounds_toArray, List.set_cons_zero, List.set_cons_succ, i64_w, i32_w])
            rfl
          refine pure_ (i := 9) (N := some 60) (v := ?_) (a' := ?_) #[true, true, true, true, true, true, false, false, false, true, false, false, false, false] rfl rfl (by kernel_rfl) (fun _ _ _ h => h) (Or.inl ⟨by rfl, ?_⟩) ?_ ?_
          rotate_left
          · intro w'
            go_simp
            with_reducible rfl
          rotate_left
          · (try simp only [Act.put, List.setIfInBounds_toArray, List.set_cons_zero, List.set_cons_succ, i64_w, i32_w])
            rfl
          refine one_ (i := 6) (N := some 57) #[true, true, true, true, true, true, true, false, false, true, false, false, false, false] rfl rfl (by kernel_rfl) (by decide) (fun K hK => ?_)
          refine goesRC_ 56 Tryd.func35 (by kernel_rfl) rfl #[.int .i64 0, .pointer (some ⟨gq, 0, none⟩)] #[.pointer (some ⟨gq, 0, none⟩)] (by rfl) rfl rfl rfl (by (try simp only [List.map_toArray, List.map_cons, List.map_nil]); first | done | rfl) ?_
          refine (HC0.out _ _ HS).mono ?_
          rintro e w_ ⟨rfl, hb⟩
          refine ⟨_, rfl, ?_⟩
          replace HS := HS.below hb
          clear hb
          refine hK.out _ _ HS (fun hHeld => ?_)
          clear hK K
          refine norm_ (a' := ?_) ?_ ?_
          rotate_left
          · show Act.put _ _ _ = _
            (try simp only [Act.put, List.setIfInBounds_toArray, List.set_cons_zero, List.set_cons_succ, i64_w, i32_w])
            rfl
          refine pure_ (i := 7) (N := some 58) (v := .string (bs ((R ++ tb ++ nm ++ [91]) ++ (a)))) (a' := ?_) #[true, true, true, true, true, true, true, true, false, true, false, false, false, false] rfl rfl (by kernel_rfl) (fun _ _ _ h => h) (Or.inl ⟨by rfl, ?_⟩) ?_ ?_
          · intro w'
            exact run_cat (t := 9) (t' := 9) (p := R ++ tb ++ nm ++ [91]) (q := a) Tryd.underlying9 rfl rfl rfl (by (try simp only [List.length_append, List.length_cons, List.length_nil]); have := mx_le; have := bx_le; omega) w'
          rotate_left
          · (try simp only [Act.put, List.setIfInBounds_toArray, List.set_cons_zero, List.set_cons_succ, i64_w, i32_w])
            rfl
          refine pure_ (i := 8) (N := some 59) (v := .string (bs ((R ++ tb ++ nm ++ [91] ++ a) ++ ([93, 32, 61, 32])))) (a' := ?_) #[true, true, true, true, true, true, true, true, true, true, false, false, false, false] rfl rfl (by kernel_rfl) (fun _ _ _ h => h) (Or.inl ⟨by rfl, ?_⟩) ?_ ?_
          · intro w'
            exact run_cat (t := 9) (t' := 9) (p := R ++ tb ++ nm ++ [91] ++ a) (q := [93, 32, 61, 32]) Tryd.underlying9 rfl rfl rfl (by (try simp only [List.length_append, List.length_cons, List.length_nil]); have := mx_le; have := bx_le; omega) w'
          rotate_left
          · (try simp only [Act.put, List.setIfInBounds_toArray, List.set_cons_zero, List.set_cons_succ, i64_w, i32_w])
            rfl
          refine one_ (i := 10) (N := some 61) #[true, true, true, true, true, true, true, true, true, true, true, false, false, false] rfl rfl (by kernel_rfl) (by decide) (fun K hK => ?_)
          refine goesRC_ 60 Tryd.func35 (by kernel_rfl) rfl #[.int .i64 1, .pointer (some ⟨gq, 0, none⟩)] #[.pointer (some ⟨gq, 0, none⟩)] (by rfl) rfl rfl rfl (by (try simp only [List.map_toArray, List.map_cons, List.map_nil]); first | done | rfl) ?_
          refine (HC1.out _ _ HS).mono ?_
          rintro e w_ ⟨rfl, hb⟩
          refine ⟨_, rfl, ?_⟩
          replace HS := HS.below hb
          clear hb
          refine hK.out _ _ HS (fun hHeld => ?_)
          clear hK K
          refine norm_ (a' := ?_) ?_ ?_
          rotate_left
          · show Act.put _ _ _ = _
            (try simp only [Act.put, List.setIfInBounds_toArray, List.set_cons_zero, List.set_cons_succ, i64_w, i32_w])
            rfl
          refine pure_ (i := 11) (N := some 62) (v := .string (bs ((R ++ tb ++ nm ++ [91] ++ a ++ [93, 32, 61, 32]) ++ (b)))) (a' := ?_) #[true, true, true, true, true, true, true, true, true, true, true, true, false, false] rfl rfl (by kernel_rfl) (fun _ _ _ h => h) (Or.inl ⟨by rfl, ?_⟩) ?_ ?_
          · intro w'
            exact run_cat (t := 9) (t' := 9) (p := R ++ tb ++ nm ++ [91] ++ a ++ [93, 32, 61, 32]) (q := b) Tryd.underlying9 rfl rfl rfl (by (try simp only [List.length_append, List.length_cons, List.length_nil]); have := mx_le; have := bx_le; omega) w'
          rotate_left
          · (try simp only [Act.put, List.setIfInBounds_toArray, List.set_cons_zero, List.set_cons_succ, i64_w, i32_w])
            rfl
          refine pure_ (i := 12) (N := some 63) (v := .string (bs ((R ++ tb ++ nm ++ [91] ++ a ++ [93, 32, 61, 32] ++ b) ++ ([59])))) (a' := ?_) #[true, true, true, true, true, true, true, true, true, true, true, true, true, false] rfl rfl (by kernel_rfl) (fun _ _ _ h => h) (Or.inl ⟨by rfl, ?_⟩) ?_ ?_
          · intro w'
            exact run_cat (t := 9) (t' := 9) (p := R ++ tb ++ nm ++ [91] ++ a ++ [93, 32, 61, 32] ++ b) (q := [59]) Tryd.underlying9 rfl rfl rfl (by (try simp only [List.length_append, List.length_cons, List.length_nil]); have := mx_le; have := bx_le; omega) w'
          rotate_left
          · (try simp only [Act.put, List.setIfInBounds_toArray, List.set_cons_zero, List.set_cons_succ, i64_w, i32_w])
            rfl
          refine pure_ (i := 13) (N := some 5) (v := ?_) (a' := ?_) #[true, true, true, true, true, true, true, true, true, true, true, true, true, true] rfl rfl (by kernel_rfl) (fun _ _ _ h => h) (Or.inl ⟨by rfl, ?_⟩) ?_ ?_
          rotate_left
          · intro w'
            go_simp
            with_reducible rfl
          rotate_left
          · (try simp only [Act.put, List.setIfInBounds_toArray, List.set_cons_zero, List.set_cons_succ, i64_w, i32_w])
            rfl
          refine done_ (by kernel_rfl) ?_
          clear hHeld
          clear cb
          have cb := HS.cell 0 rfl
          go_wp2_with (first | (go_at_call 35; refine (HC0.out _ _ HS).mono ?_; rintro e w_ ⟨rfl, hb⟩; replace HS := HS.below hb; clear hb) | (go_at_call 20; refine (HTE.out _ (HS.old 1 rfl)).mono ?_; rintro e w_ ⟨rfl, hb⟩; replace HS := HS.below hb; clear hb cb; have cb := HS.cell 0 rfl) | ((with_reducible refine gate_bin (b := .add) (t := 9) (t' := 9) rfl ?_); go_must (refine ev_cat Tryd.underlying9 rfl rfl rfl rfl rfl (by (try simp only [List.length_append, List.length_cons, List.length_nil]); have := mx_le; have := bx_le; omega) ?_)))
          go_roundg k1
          case measure => exact Nat.lt_succ_self _
          case rel =>
            have h1 := HII.out
            have h2 := HI.out
            refine ⟨i + 1, ?_, by rw [hwi, ← h1.1]; rfl, ⟨by omega, by omega⟩, ⟨HS.tail⟩⟩
            rw [HQ.out, HK.out, stN3]
            simp
        have b3 : (q.f0 == 3) = false := beq_eq_false_iff_ne.2 h3
        by_cases h4 : q.f0 = 4
        · have b4 : (q.f0 == 4) = true := beq_iff_eq.2 h4
          have HK := Aside0.mk h4
          clear h4
          go_upto_region 16 with (first | ((with_reducible refine gate_bin (b := .add) (t := 9) (t' := 9) rfl ?_); go_must (refine ev_cat Tryd.underlying9 rfl rfl rfl rfl rfl (by (try simp only [List.length_append, List.length_cons, List.length_nil]); have := mx_le; have := bx_le; omega) ?_)))
          skip
          refine start_ (n := 16) (S := fun w' => Sat W w' [blk gq 38 #[.int .i64 q.f0, .int .i64 q.f1.f0, .int .i64 q.f1.f1, .string (bs nm), .slice B4 q.f3.length d4, .slice B5 q.f4.length d5, .slice B6 q.f5.length d6], old W]) (ds := []) #[false, false, false, false, false, false, false, false, false, false, false, false, false, false, false, false] (by kernel_rfl) rfl rfl HS.drew (fun hHeld => ?_)
          replace HS := HS.drew
          generalize World.drew w = w at HS hHeld ⊢
          refine pure_ (i := 0) (N := some 66) (v := ?_) (a' := ?_) #[true, false, false, false, false, false, false, false, false, false, false, false, false, false, false, false] rfl rfl (by kernel_rfl) (fun _ _ _ h => h) (Or.inl ⟨by rfl, ?_⟩) ?_ ?_
          rotate_left
          · intro w'
            go_simp
            with_reducible rfl
          rotate_left
          · (try simp only [Act.put, List.setIfInBounds_toArray, List.set_cons_zero, List.set_cons_succ, i64_w, i32_w])
            rfl
          refine pure_ (i := 1) (N := some 67) (v := .string (bs ((R ++ tb) ++ ([105, 102, 32])))) (a' := ?_) #[true, true, false, false, false, false, false, false, false, false, false, false, false, false, false, false] rfl rfl (by kernel_rfl) (fun _ _ _ h => h) (Or.inl ⟨by rfl, ?_⟩) ?_ ?_
          · intro w'
            exact run_cat (t := 9) (t' := 9) (p := R ++ tb) (q := [105, 102, 32]) Tryd.underlying9 rfl rfl rfl (by (try simp only [List.length_append, List.length_cons, List.length_nil]); have := mx_le; have := bx_le; omega) w'
          rotate_left
          · (try simp only [Act.put, List.setIfInBounds_toArray, List.set_cons_zero, List.set_cons_succ, i64_w, i32_w])
            rfl
          refine pure_ (i := 2) (N := some 68) (v := ?_) (a' := ?_) #[true, true, true, false, false, false, false, false, false, false, false, false, false, false, false, false] rfl rfl (by kernel_rfl) (fun _ _ _ h => h) (Or.inl ⟨by rfl, ?_⟩) ?_ ?_
          rotate_left
          · intro w'
            go_simp
            with_reducible rfl
          rotate_left
          · (try simp only [Act.put, List.setIfInBounds_toArray, List.set_cons_zero, List.set_cons_succ, i64_w, i32_w])
            rfl
          refine pure_ (i := 6) (N := some 72) (v := ?_) (a' := ?_) #[true, true, true, false, false, false, true, false, false, false, false, false, false, false, false, false] rfl rfl (by kernel_rfl) (fun _ _ _ h => h) (Or.inl ⟨by rfl, ?_⟩) ?_ ?_
          rotate_left
          · intro w'
            go_simp
            with_reducible rfl
          rotate_left
          · (try simp only [Act.put, List.setIfInBounds_toArray, List.set_cons_zero, List.set_cons_succ, i64_w, i32_w])
            rfl
          refine take_ (i := 7) (N := some 73) (v := ?_) (a' := ?_) #[true, true, true, false, false, false, true, true, false, false, false, false, false, false, false, false] rfl rfl (by kernel_rfl) (fun _ _ _ h => h) (Or.inl ⟨by rfl, ?_⟩) hHeld ?_ ?_
          rotate_left
          · rintro w' hS
            have cb := hS.cell 0 rfl
            go_simp
            with_reducible rfl
          rotate_left
          · (try simp only [Act.put, List.setIfInBounds_toArray, List.set_cons_zero, List.set_cons_succ, i64_w, i32_w])
            rfl
          refine pure_ (i := 8) (N := some 74) (v := ?_) (a' := ?_) #[true, true, true, false, false, false, true, true, true, false, false, false, false, false, false, false] rfl rfl (by kernel_rfl) (fun _ _ _ h => h) (Or.inl ⟨by rfl, ?_⟩) ?_ ?_
          rotate_left
          · intro w'
            go_simp
            with_reducible rfl
          rotate_left
          · (try simp only [Act.put, List.setIfInBounds_toArray, List.set_cons_zero, List.set_cons_succ, i64_w, i32_w])
            rfl
          refine pure_ (i := 9) (N := some 75) (v := .string (bs ((tb) ++ ([9])))) (a' := ?_) #[true, true, true, false, false, false, true, true, true, true, false, false, false, false, false, false] rfl rfl (by kernel_rfl) (fun _ _ _ h => h) (Or.inl ⟨by rfl, ?_⟩) ?_ ?_
          · intro w'
            exact run_cat (t := 9) (t' := 9) (p := tb) (q := [9]) Tryd.underlying9 rfl rfl rfl (by (try simp only [List.length_append, List.length_cons, List.length_nil]); have := mx_le; have := bx_le; omega) w'
          rotate_left
          · (try simp only [Act.put, List.setIfInBounds_toArray, List.set_cons_zero, List.set_cons_succ, i64_w, i32_w])
            rfl
          refine pure_ (i := 12) (N := some 78) (v := ?_) (a' := ?_) #[true, true, true, false, false, false, true, true, true, true, false, false, true, false, false, false] rfl rfl (by kernel_rfl) (fun _ _ _ h => h) (Or.inl ⟨by rfl, ?_⟩) ?_ ?_
          rotate_left
          · intro w'
            go_simp
            with_reducible rfl
          rotate_left
          · (try simp only [Act.put, List.setIfInBounds_toArray, List.set_cons_zero, List.set_cons_succ, i64_w, i32_w])
            rfl
          refine one_ (i := 3) (N := some 69) #[true, true, true, true, false, false, true, true, true, true, false, false, true, false, false, false] rfl rfl (by kernel_rfl) (by decide) (fun K hK => ?_)
          refine goesRC_ 68 Tryd.func35 (by kernel_rfl) rfl #[.int .i64 0, .pointer (some ⟨gq, 0, none⟩)] #[.pointer (some ⟨gq, 0, none⟩)] (by rfl) rfl rfl rfl (by (try simp only [List.map_toArray, List.map_cons, List.map_nil]); first | done | rfl) ?_
          refine (HC0.out _ _ HS).mono ?_
          rintro e w_ ⟨rfl, hb⟩
          refine ⟨_, rfl, ?_⟩
          replace HS := HS.below hb
          clear hb
          refine hK.out _ _ HS (fun hHeld => ?_)
          clear hK K
          refine norm_ (a' := ?_) ?_ ?_
          rotate_left
          · show Act.put _ _ _ = _
            (try simp only [Act.put, List.setIfInBounds_toArray, List.set_cons_zero, List.set_cons_succ, i64_w, i32_w])
            rfl
          refine pure_ (i := 4) (N := some 70) (v := .string (bs ((R ++ tb ++ [105, 102, 32]) ++ (a)))) (a' := ?_) #[true, true, true, true, true, false, true, true, true, true, false, false, true, false, false, false] rfl rfl (by kernel_rfl) (fun _ _ _ h => h) (Or.inl ⟨by rfl, ?_⟩) ?_ ?_
          · intro w'
            exact run_cat (t := 9) (t' := 9) (p := R ++ tb ++ [105, 102, 32]) (q := a) Tryd.underlying9 rfl rfl rfl (by (try simp only [List.length_append, List.length_cons, List.length_nil]); have := mx_le; have := bx_le; omega) w'
          rotate_left
          · (try simp only [Act.put, List.setIfInBounds_toArray, List.set_cons_zero, List.set_cons_succ, i64_w, i32_w])
            rfl
          refine pure_ (i := 5) (N := some 71) (v := .string (bs ((R ++ tb ++ [105, 102, 32] ++ a) ++ ([32, 123, 10])))) (a' := ?_) #[true, true, true, true, true, true, true, true, true, true, false, false, true, false, false, false] rfl rfl (by kernel_rfl) (fun _ _ _ h => h) (Or.inl ⟨by rfl, ?_⟩) ?_ ?_
          · intro w'
            exact run_cat (t := 9) (t' := 9) (p := R ++ tb ++ [105, 102, 32] ++ a) (q := [32, 123, 10]) Tryd.underlying9 rfl rfl rfl (by (try simp only [List.length_append, List.length_cons, List.length_nil]); have := mx_le; have := bx_le; omega) w'
          rotate_left
          · (try simp only [Act.put, List.setIfInBounds_toArray, List.set_cons_zero, List.set_cons_succ, i64_w, i32_w])
            rfl
          refine one_ (i := 10) (N := some 76) #[true, true, true, true, true, true, true, true, true, true, true, false, true, false, false, false] rfl rfl (by kernel_rfl) (by decide) (fun K hK => ?_)
          refine goes_ Tryd.func20 (by kernel_rfl) rfl #[.slice B5 q.f4.length d5, .string (bs (tb ++ [9]))] (by rfl) rfl rfl (by (try simp only [List.map_toArray, List.map_cons, List.map_nil]); first | done | rfl) ?_
          refine (HTH.out _ (HS.old 1 rfl)).mono ?_
          rintro e w_ ⟨rfl, hb⟩
          refine ⟨_, rfl, ?_⟩
          replace HS := HS.below hb
          clear hb
          refine hK.out _ _ HS (fun hHeld => ?_)
          clear hK K
          refine norm_ (a' := ?_) ?_ ?_
          rotate_left
          · show Act.put _ _ _ = _
            (try simp only [Act.put, List.setIfInBounds_toArray, List.set_cons_zero, List.set_cons_succ, i64_w, i32_w])
            rfl
          refine pure_ (i := 11) (N := some 77) (v := .string (bs ((R ++ tb ++ [105, 102, 32] ++ a ++ [32, 123, 10]) ++ (tt)))) (a' := ?_) #[true, true, true, true, true, true, true, true, true, true, true, true, true, false, false, false] rfl rfl (by kernel_rfl) (fun _ _ _ h => h) (Or.inl ⟨by rfl, ?_⟩) ?_ ?_
          · intro w'
            exact run_cat (t := 9) (t' := 9) (p := R ++ tb ++ [105, 102, 32] ++ a ++ [32, 123, 10]) (q := tt) Tryd.underlying9 rfl rfl rfl (by (try simp only [List.length_append, List.length_cons, List.length_nil]); have := mx_le; have := bx_le; omega) w'
          rotate_left
          · (try simp only [Act.put, List.setIfInBounds_toArray, List.set_cons_zero, List.set_cons_succ, i64_w, i32_w])
            rfl
          refine pure_ (i := 13) (N := some 79) (v := .string (bs ((R ++ tb ++ [105, 102, 32] ++ a ++ [32, 123, 10] ++ tt) ++ (tb)))) (a' := ?_) #[true, true, true, true, true, true, true, true, true, true, true, true, true, true, false, false] rfl rfl (by kernel_rfl) (fun _ _ _ h => h) (Or.inl ⟨by rfl, ?_⟩) ?_ ?_
          · intro w'
            exact run_cat (t := 9) (t' := 9) (p := R ++ tb ++ [105, 102, 32] ++ a ++ [32, 123, 10] ++ tt) (q := tb) Tryd.underlying9 rfl rfl rfl (by (try simp only [List.length_append, List.length_cons, List.length_nil]); have := mx_le; have := bx_le; omega) w'
          rotate_left
          · (try simp only [Act.put, List.setIfInBounds_toArray, List.set_cons_zero, List.set_cons_succ, i64_w, i32_w])
            rfl
          refine pure_ (i := 14) (N := some 80) (v := .string (bs ((R ++ tb ++ [105, 102, 32] ++ a ++ [32, 123, 10] ++ tt ++ tb) ++ ([125])))) (a' := ?_) #[true, true, true, true, true, true, true, true, true, true, true, true, true, true, true, false] rfl rfl (by kernel_rfl) (fun _ _ _ h => h) (Or.inl ⟨by rfl, ?_⟩) ?_ ?_
          · intro w'
            exact run_cat (t := 9) (t' := 9) (p := R ++ tb ++ [105, 102, 32] ++ a ++ [32, 123, 10] ++ tt ++ tb) (q := [125]) Tryd.underlying9 rfl rfl rfl (by (try simp only [List.length_append, List.length_cons, List.length_nil]); have := mx_le; have := bx_le; omega) w'
          rotate_left
          · (try simp only [Act.put, List.setIfInBounds_toArray, List.set_cons_zero, List.set_cons_succ, i64_w, i32_w])
            rfl
          refine pure_ (i := 15) (N := some 5) (v := ?_) (a' := ?_) #[true, true, true, true, true, true, true, true, true, true, true, true, true, true, true, true] rfl rfl (by kernel_rfl) (fun _ _ _ h => h) (Or.inl ⟨by rfl, ?_⟩) ?_ ?_
          rotate_left
          · intro w'
            go_simp
            with_reducible rfl
          rotate_left
          · (try simp only [Act.put, List.setIfInBounds_toArray, List.set_cons_zero, List.set_cons_succ, i64_w, i32_w])
            rfl
          refine done_ (by kernel_rfl) ?_
          clear hHeld
          clear cb
          have cb := HS.cell 0 rfl
          by_cases he : q.f5.length = 0
          · have z1 : decide (0 < q.f5.length) = false := decide_eq_false (by omega)
            have z2 : decide ((0 : Int) < (q.f5.length : Int)) = false := decide_eq_false (by omega)
            have HE0 := Aside0.mk (decide_eq_true he)
            clear he
            go_wp2_with (first | (go_at_call 35; refine (HC0.out _ _ HS).mono ?_; rintro e w_ ⟨rfl, hb⟩; replace HS := HS.below hb; clear hb) | (go_at_call 20; refine (HTE.out _ (HS.old 1 rfl)).mono ?_; rintro e w_ ⟨rfl, hb⟩; replace HS := HS.below hb; clear hb cb; have cb := HS.cell 0 rfl) | ((with_reducible refine gate_bin (b := .add) (t := 9) (t' := 9) rfl ?_); go_must (refine ev_cat Tryd.underlying9 rfl rfl rfl rfl rfl (by (try simp only [List.length_append, List.length_cons, List.length_nil]); have := mx_le; have := bx_le; omega) ?_)))
            go_roundg k1
            case measure => exact Nat.lt_succ_self _
            case rel =>
              have h1 := HII.out
              have h2 := HI.out
              refine ⟨i + 1, ?_, by rw [hwi, ← h1.1]; rfl, ⟨by omega, by omega⟩, ⟨HS.tail⟩⟩
              rw [HQ.out, HK.out, HE0.out, stN4]
              simp
          · have z1 : decide (0 < q.f5.length) = true := decide_eq_true (by omega)
            have z2 : decide ((0 : Int) < (q.f5.length : Int)) = true := decide_eq_true (by omega)
            have HE0 := Aside0.mk (decide_eq_false he)
            clear he
            go_wp2_with (first | (go_at_call 35; refine (HC0.out _ _ HS).mono ?_; rintro e w_ ⟨rfl, hb⟩; replace HS := HS.below hb; clear hb) | (go_at_call 20; refine (HTE.out _ (HS.old 1 rfl)).mono ?_; rintro e w_ ⟨rfl, hb⟩; replace HS := HS.below hb; clear hb cb; have cb := HS.cell 0 rfl) | ((with_reducible refine gate_bin (b := .add) (t := 9) (t' := 9) rfl ?_); go_must (refine ev_cat Tryd.underlying9 rfl rfl rfl rfl rfl (by (try simp only [List.length_append, List.length_cons, List.length_nil]); have := mx_le; have := bx_le; omega) ?_)))
            go_roundg k1
            case measure => exact Nat.lt_succ_self _
            case rel =>
              have h1 := HII.out
              have h2 := HI.out
              refine ⟨i + 1, ?_, by rw [hwi, ← h1.1]; rfl, ⟨by omega, by omega⟩, ⟨HS.tail⟩⟩
              rw [HQ.out, HK.out, HE0.out, stN4e]
              simp
        have b4 : (q.f0 == 4) = false := beq_eq_false_iff_ne.2 h4
        by_cases h5 : q.f0 = 5
        · have b5 : (q.f0 == 5) = true := beq_iff_eq.2 h5
          have HK := Aside0.mk h5
          clear h5
          go_upto_region 20 with (first | ((with_reducible refine gate_bin (b := .add) (t := 9) (t' := 9) rfl ?_); go_must (refine ev_cat Tryd.underlying9 rfl rfl rfl rfl rfl (by (try simp only [List.length_append, List.length_cons, List.length_nil]); have := mx_le; have := bx_le; omega) ?_)))
          skip
          refine start_ (n := 16) (S := fun w' => Sat W w' [blk gq 38 #[.int .i64 q.f0, .int .i64 q.f1.f0, .int .i64 q.f1.f1, .string (bs nm), .slice B4 q.f3.length d4, .slice B5 q.f4.length d5, .slice B6 q.f5.length d6], old W]) (ds := []) #[false, false, false, false, false, false, false, false, false, false, false, false, false, false, false, false] (by kernel_rfl) rfl rfl HS.drew (fun hHeld => ?_)
          replace HS := HS.drew
          generalize World.drew w = w at HS hHeld ⊢
          refine pure_ (i := 0) (N := some 98) (v := ?_) (a' := ?_) #[true, false, false, false, false, false, false, false, false, false, false, false, false, false, false, false] rfl rfl (by kernel_rfl) (fun _ _ _ h => h) (Or.inl ⟨by rfl, ?_⟩) ?_ ?_
          rotate_left
          · intro w'
            go_simp
            with_reducible rfl
          rotate_left
          · (try simp only [Act.put, List.setIfInBounds_toArray, List.set_cons_zero, List.set_cons_succ, i64_w, i32_w])
            rfl
          refine pure_ (i := 1) (N := some 99) (v := .string (bs ((R ++ tb) ++ ([119, 104, 105, 108, 101, 32])))) (a' := ?_) #[true, true, false, false, false, false, false, false, false, false, false, false, false, false, false, false] rfl rfl (by kernel_rfl) (fun _ _ _ h => h) (Or.inl ⟨by rfl, ?_⟩) ?_ ?_
          · intro w'
            exact run_cat (t := 9) (t' := 9) (p := R ++ tb) (q := [119, 104, 105, 108, 101, 32]) Tryd.underlying9 rfl rfl rfl (by (try simp only [List.length_append, List.length_cons, List.length_nil]); have := mx_le; have := bx_le; omega) w'
          rotate_left
          · (try simp only [Act.put, List.setIfInBounds_toArray, List.set_cons_zero, List.set_cons_succ, i64_w, i32_w])
            rfl
          refine pure_ (i := 2) (N := some 100) (v := ?_) (a' := ?_) #[true, true, true, false, false, false, false, false, false, false, false, false, false, false, false, false] rfl rfl (by kernel_rfl) (fun _ _ _ h => h) (Or.inl ⟨by rfl, ?_⟩) ?_ ?_
          rotate_left
          · intro w'
            go_simp
            with_reducible rfl
          rotate_left
          · (try simp only [Act.put, List.setIfInBounds_toArray, List.set_cons_zero, List.set_cons_succ, i64_w, i32_w])
            rfl
          refine pure_ (i := 6) (N := some 104) (v := ?_) (a' := ?_) #[true, true, true, false, false, false, true, false, false, false, false, false, false, false, false, false] rfl rfl (by kernel_rfl) (fun _ _ _ h => h) (Or.inl ⟨by rfl, ?_⟩) ?_ ?_
          rotate_left
          · intro w'
            go_simp
            with_reducible rfl
          rotate_left
          · (try simp only [Act.put, List.setIfInBounds_toArray, List.set_cons_zero, List.set_cons_succ, i64_w, i32_w])
            rfl
          refine take_ (i := 7) (N := some 105) (v := ?_) (a' := ?_) #[true, true, true, false, false, false, true, true, false, false, false, false, false, false, false, false] rfl rfl (by kernel_rfl) (fun _ _ _ h => h) (Or.inl ⟨by rfl, ?_⟩) hHeld ?_ ?_
          rotate_left
          · rintro w' hS
            have cb := hS.cell 0 rfl
            go_simp
            with_reducible rfl
          rotate_left
          · (try simp only [Act.put, List.setIfInBounds_toArray, List.set_cons_zero, List.set_cons_succ, i64_w, i32_w])
            rfl
          refine pure_ (i := 8) (N := some 106) (v := ?_) (a' := ?_) #[true, true, true, false, false, false, true, true, true, false, false, false, false, false, false, false] rfl rfl (by kernel_rfl) (fun _ _ _ h => h) (Or.inl ⟨by rfl, ?_⟩) ?_ ?_
          rotate_left
          · intro w'
            go_simp
            with_reducible rfl
          rotate_left
          · (try simp only [Act.put, List.setIfInBounds_toArray, List.set_cons_zero, List.set_cons_succ, i64_w, i32_w])
            rfl
          refine pure_ (i := 9) (N := some 107) (v := .string (bs ((tb) ++ ([9])))) (a' := ?_) #[true, true, true, false, false, false, true, true, true, true, false, false, false, false, false, false] rfl rfl (by kernel_rfl) (fun _ _ _ h => h) (Or.inl ⟨by rfl, ?_⟩) ?_ ?_
          · intro w'
            exact run_cat (t := 9) (t' := 9) (p := tb) (q := [9]) Tryd.underlying9 rfl rfl rfl (by (try simp only [List.length_append, List.length_cons, List.length_nil]); have := mx_le; have := bx_le; omega) w'
          rotate_left
          · (try simp only [Act.put, List.setIfInBounds_toArray, List.set_cons_zero, List.set_cons_succ, i64_w, i32_w])
            rfl
          refine pure_ (i := 12) (N := some 110) (v := ?_) (a' := ?_) #[true, true, true, false, false, false, true, true, true, true, false, false, true, false, false, false] rfl rfl (by kernel_rfl) (fun _ _ _ h => h) (Or.inl ⟨by rfl, ?_⟩) ?_ ?_
          rotate_left
          · intro w'
            go_simp
            with_reducible rfl
          rotate_left
          · (try simp only [Act.put, List.setIfInBounds_toArray, List.set_cons_zero, List.set_cons_succ, i64_w, i32_w])
            rfl
          refine one_ (i := 3) (N := some 101) #[true, true, true, true, false, false, true, true, true, true, false, false, true, false, false, false] rfl rfl (by kernel_rfl) (by decide) (fun K hK => ?_)
          refine goesRC_ 100 Tryd.func35 (by kernel_rfl) rfl #[.int .i64 0, .pointer (some ⟨gq, 0, none⟩)] #[.pointer (some ⟨gq, 0, none⟩)] (by rfl) rfl rfl rfl (by (try simp only [List.map_toArray, List.map_cons, List.map_nil]); first | done | rfl) ?_
          refine (HC0.out _ _ HS).mono ?_
          rintro e w_ ⟨rfl, hb⟩
          refine ⟨_, rfl, ?_⟩
          replace HS := HS.below hb
          clear hb
          refine hK.out _ _ HS (fun hHeld => ?_)
          clear hK K
          refine norm_ (a' := ?_) ?_ ?_
          rotate_left
          · show Act.put _ _ _ = _
            (try simp only [Act.put, List.setIfInBounds_toArray, List.set_cons_zero, List.set_cons_succ, i64_w, i32_w])
            rfl
          refine pure_ (i := 4) (N := some 102) (v := .string (bs ((R ++ tb ++ [119, 104, 105, 108, 101, 32]) ++ (a)))) (a' := ?_) #[true, true, true, true, true, false, true, true, true, true, false, false, true, false, false, false] rfl rfl (by kernel_rfl) (fun _ _ _ h => h) (Or.inl ⟨by rfl, ?_⟩) ?_ ?_
          · intro w'
            exact run_cat (t := 9) (t' := 9) (p := R ++ tb ++ [119, 104, 105, 108, 101, 32]) (q := a) Tryd.underlying9 rfl rfl rfl (by (try simp only [List.length_append, List.length_cons, List.length_nil]); have := mx_le; have := bx_le; omega) w'
          rotate_left
          · (try simp only [Act.put, List.setIfInBounds_toArray, List.set_cons_zero, List.set_cons_succ, i64_w, i32_w])
            rfl
          refine pure_ (i := 5) (N := some 103) (v := .string (bs ((R ++ tb ++ [119, 104, 105, 108, 101, 32] ++ a) ++ ([32, 123, 10])))) (a' := ?_) #[true, true, true, true, true, true, true, true, true, true, false, false, true, false, false, false] rfl rfl (by kernel_rfl) (fun _ _ _ h => h) (Or.inl ⟨by rfl, ?_⟩) ?_ ?_
          · intro w'
            exact run_cat (t := 9) (t' := 9) (p := R ++ tb ++ [119, 104, 105, 108, 101, 32] ++ a) (q := [32, 123, 10]) Tryd.underlying9 rfl rfl rfl (by (try simp only [List.length_append, List.length_cons, List.length_nil]); have := mx_le; have := bx_le; omega) w'
          rotate_left
          · (try simp only [Act.put, List.setIfInBounds_toArray, List.set_cons_zero, List.set_cons_succ, i64_w, i32_w])
            rfl
          refine one_ (i := 10) (N := some 108) #[true, true, true, true, true, true, true, true, true, true, true, false, true, false, false, false] rfl rfl (by kernel_rfl) (by decide) (fun K hK => ?_)
          refine goes_ Tryd.func20 (by kernel_rfl) rfl #[.slice B5 q.f4.length d5, .string (bs (tb ++ [9]))] (by rfl) rfl rfl (by (try simp only [List.map_toArray, List.map_cons, List.map_nil]); first | done | rfl) ?_
          refine (HTH.out _ (HS.old 1 rfl)).mono ?_
          rintro e w_ ⟨rfl, hb⟩
          refine ⟨_, rfl, ?_⟩
          replace HS := HS.below hb
          clear hb
          refine hK.out _ _ HS (fun hHeld => ?_)
          clear hK K
          refine norm_ (a' := ?_) ?_ ?_
          rotate_left
          · show Act.put _ _ _ = _
            (try simp only [Act.put, List.setIfInBounds_toArray, List.set_cons_zero, List.set_cons_succ, i64_w, i32_w])
            rfl
          refine pure_ (i := 11) (N := some 109) (v := .string (bs ((R ++ tb ++ [119, 104, 105, 108, 101, 32] ++ a ++ [32, 123, 10]) ++ (tt)))) (a' := ?_) #[true, true, true, true, true, true, true, true, true, true, true, true, true, false, false, false] rfl rfl (by kernel_rfl) (fun _ _ _ h => h) (Or.inl ⟨by rfl, ?_⟩) ?_ ?_
          · intro w'
            exact run_cat (t := 9) (t' := 9) (p := R ++ tb ++ [119, 104, 105, 108, 101, 32] ++ a ++ [32, 123, 10]) (q := tt) Tryd.underlying9 rfl rfl rfl (by (try simp only [List.length_append, List.length_cons, List.length_nil]); have := mx_le; have := bx_le; omega) w'
          rotate_left
          · (try simp only [Act.put, List.setIfInBounds_toArray, List.set_cons_zero, List.set_cons_succ, i64_w, i32_w])
            rfl
          refine pure_ (i := 13) (N := some 111) (v := .string (bs ((R ++ tb ++ [119, 104, 105, 108, 101, 32] ++ a ++ [32, 123, 10] ++ tt) ++ (tb)))) (a' := ?_) #[true, true, true, true, true, true, true, true, true, true, true, true, true, true, false, false] rfl rfl (by kernel_rfl) (fun _ _ _ h => h) (Or.inl ⟨by rfl, ?_⟩) ?_ ?_
          · intro w'
            exact run_cat (t := 9) (t' := 9) (p := R ++ tb ++ [119, 104, 105, 108, 101, 32] ++ a ++ [32, 123, 10] ++ tt) (q := tb) Tryd.underlying9 rfl rfl rfl (by (try simp only [List.length_append, List.length_cons, List.length_nil]); have := mx_le; have := bx_le; omega) w'
          rotate_left
          · (try simp only [Act.put, List.setIfInBounds_toArray, List.set_cons_zero, List.set_cons_succ, i64_w, i32_w])
            rfl
          refine pure_ (i := 14) (N := some 112) (v := .string (bs ((R ++ tb ++ [119, 104, 105, 108, 101, 32] ++ a ++ [32, 123, 10] ++ tt ++ tb) ++ ([125])))) (a' := ?_) #[true, true, true, true, true, true, true, true, true, true, true, true, true, true, true, false] rfl rfl (by kernel_rfl) (fun _ _ _ h => h) (Or.inl ⟨by rfl, ?_⟩) ?_ ?_
          · intro w'
            exact run_cat (t := 9) (t' := 9) (p := R ++ tb ++ [119, 104, 105, 108, 101, 32] ++ a ++ [32, 123, 10] ++ tt ++ tb) (q := [125]) Tryd.underlying9 rfl rfl rfl (by (try simp only [List.length_append, List.length_cons, List.length_nil]); have := mx_le; have := bx_le; omega) w'
          rotate_left
          · (try simp only [Act.put, List.setIfInBounds_toArray, List.set_cons_zero, List.set_cons_succ, i64_w, i32_w])
            rfl
          refine pure_ (i := 15) (N := some 5) (v := ?_) (a' := ?_) #[true, true, true, true, true, true, true, true, true, true, true, true, true, true, true, true] rfl rfl (by kernel_rfl) (fun _ _ _ h => h) (Or.inl ⟨by rfl, ?_⟩) ?_ ?_
          rotate_left
          · intro w'
            go_simp
            with_reducible rfl
          rotate_left
          · (try simp only [Act.put, List.setIfInBounds_toArray, List.set_cons_zero, List.set_cons_succ, i64_w, i32_w])
            rfl
          refine done_ (by kernel_rfl) ?_
          clear hHeld
          clear cb
          have cb := HS.cell 0 rfl
          go_wp2_with (first | (go_at_call 35; refine (HC0.out _ _ HS).mono ?_; rintro e w_ ⟨rfl, hb⟩; replace HS := HS.below hb; clear hb) | (go_at_call 20; refine (HTE.out _ (HS.old 1 rfl)).mono ?_; rintro e w_ ⟨rfl, hb⟩; replace HS := HS.below hb; clear hb cb; have cb := HS.cell 0 rfl) | ((with_reducible refine gate_bin (b := .add) (t := 9) (t' := 9) rfl ?_); go_must (refine ev_cat Tryd.underlying9 rfl rfl rfl rfl rfl (by (try simp only [List.length_append, List.length_cons, List.length_nil]); have := mx_le; have := bx_le; omega) ?_)))
          go_roundg k1
          case measure => exact Nat.lt_succ_self _
          case rel =>
            have h1 := HII.out
            have h2 := HI.out
            refine ⟨i + 1, ?_, by rw [hwi, ← h1.1]; rfl, ⟨by omega, by omega⟩, ⟨HS.tail⟩⟩
            rw [HQ.out, HK.out, stN5]
            simp
        have b5 : (q.f0 == 5) = false := beq_eq_false_iff_ne.2 h5
        by_cases h6 : q.f0 = 6
        · have b6 : (q.f0 == 6) = true := beq_iff_eq.2 h6
          have HK := Aside0.mk h6
          clear h6
          go_wp2_with (first | (go_at_call 35; refine (HC0.out _ _ HS).mono ?_; rintro e w_ ⟨rfl, hb⟩; replace HS := HS.below hb; clear hb) | (go_at_call 20; refine (HTE.out _ (HS.old 1 rfl)).mono ?_; rintro e w_ ⟨rfl, hb⟩; replace HS := HS.below hb; clear hb cb; have cb := HS.cell 0 rfl) | ((with_reducible refine gate_bin (b := .add) (t := 9) (t' := 9) rfl ?_); go_must (refine ev_cat Tryd.underlying9 rfl rfl rfl rfl rfl (by (try simp only [List.length_append, List.length_cons, List.length_nil]); have := mx_le; have := bx_le; omega) ?_)))
          go_roundg k1
          case measure => exact Nat.lt_succ_self _
          case rel =>
            have h1 := HII.out
            have h2 := HI.out
            refine ⟨i + 1, ?_, by rw [hwi, ← h1.1]; rfl, ⟨by omega, by omega⟩, ⟨HS.tail⟩⟩
            rw [HQ.out, HK.out, stN6]
            simp
        have b6 : (q.f0 == 6) = false := beq_eq_false_iff_ne.2 h6
        have HK := Aside0.mk (show stN q.f0 tb nm a b tt te (decide (q.f5.length = 0)) = tb ++ a ++ [59, 10] by unfold stN; rw [if_neg h1, if_neg h2, if_neg h3, if_neg h4, if_neg h5, if_neg h6])
        clear h1 h2 h3 h4 h5 h6
        go_wp2_with (first | (go_at_call 35; refine (HC0.out _ _ HS).mono ?_; rintro e w_ ⟨rfl, hb⟩; replace HS := HS.below hb; clear hb) | (go_at_call 20; refine (HTE.out _ (HS.old 1 rfl)).mono ?_; rintro e w_ ⟨rfl, hb⟩; replace HS := HS.below hb; clear hb cb; have cb := HS.cell 0 rfl) | ((with_reducible refine gate_bin (b := .add) (t := 9) (t' := 9) rfl ?_); go_must (refine ev_cat Tryd.underlying9 rfl rfl rfl rfl rfl (by (try simp only [List.length_append, List.length_cons, List.length_nil]); have := mx_le; have := bx_le; omega) ?_)))
        go_roundg k1
        case measure => exact Nat.lt_succ_self _
        case rel =>
          have h1 := HII.out
          have h2 := HI.out
          refine ⟨i + 1, ?_, by rw [hwi, ← h1.1]; rfl, ⟨by omega, by omega⟩, ⟨HS.tail⟩⟩
          rw [HQ.out, HK.out]
          simp
      · have hkk : i = l.length := by have := HI.out.1; omega
        subst hkk
        have hkb : decide (l.length < l.length) = false := decide_eq_false (Nat.lt_irrefl _)
        have hkb2 : decide ((l.length : Int) < (l.length : Int)) = false := decide_eq_false (by omega)
        rw [List.take_length] at hR
        have HRR := Aside0.mk hR
        clear hR hk
        go_wp2
        go_ret
        exact ⟨ret_bs HRR.out, HS.old 0 rfl⟩
/-- The law's own text of statements. -/
theorem sts_calls (l : List S38) : StsC l := sts_all l (fun s hs => ⟨sts_calls s.f4, sts_calls s.f5⟩)
termination_by SizeOf.sizeOf l
decreasing_by
  · have h := List.sizeOf_lt_of_mem hs
    have h2 : SizeOf.sizeOf s.f4 < SizeOf.sizeOf s := by cases s; simp only [S38.mk.sizeOf_spec]; omega
    omega
  · have h := List.sizeOf_lt_of_mem hs
    have h2 : SizeOf.sizeOf s.f5 < SizeOf.sizeOf s := by cases s; simp only [S38.mk.sizeOf_spec]; omega
    omega
end Go.Proofs.YtaammdmaldodaaaDoor.B
