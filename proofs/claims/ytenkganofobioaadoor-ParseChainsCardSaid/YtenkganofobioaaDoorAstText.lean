/- Expr.Text: an expression's text. -/
import Derived.Test.YtenkganofobioaaDoorAstPure
import Derived.Test.YtenkganofobioaaDoorStrLib
namespace Go.Proofs.YtenkganofobioaaDoor.B
open Go.RowKit Go.Proofs.YtenkganofobioaaDoor.Mine Go.Proofs.YtenkganofobioaaDoor.Sep Go.Proofs.YtenkganofobioaaDoorW.PrintWords Go.Proofs.YtenkganofobioaaDoorW.PrintLast Go.Proofs.YtenkganofobioaaDoorW.PrintMore
set_option linter.unusedVariables false
set_option linter.unusedSimpArgs false
set_option maxRecDepth 100000 in
theorem sign_calls (op : Int) (w : World) (hG : GL w) : Calls Tryd.prog 29 #[.int .i64 op] w fun e w' => e = .returned (.string (bs (signF op))) ∧ w' = w := by
  by_cases h0 : op < 0
  · have hs : signF op = [] := by unfold signF; rw [if_pos (.inl h0)]
    rw [hs]
    have c0 : decide (op < 0) = true := decide_eq_true h0
    clear hs h0
    go_enter Tryd.func29, Tryd.ntmps29
    go_wp2
    go_ret
    exact ⟨rfl, rfl⟩
  · by_cases h1 : 15 ≤ op
    · have hs : signF op = [] := by unfold signF; rw [if_pos (.inr h1)]
      rw [hs]
      have c0 : decide (op < 0) = false := decide_eq_false h0
      have c1 : decide (15 ≤ op) = true := decide_eq_true h1
      clear hs h0
      go_enter Tryd.func29, Tryd.ntmps29
      go_wp2
      go_ret
      exact ⟨rfl, rfl⟩
    · obtain ⟨n, rfl⟩ : ∃ n : Nat, op = (n : Int) := ⟨op.toNat, by omega⟩
      have hn : n < signList.length := by simp; omega
      have hs : signF (n : Int) = signList[n] := by unfold signF; rw [if_neg (by omega), Int.toNat_natCast, List.getD_eq_getElem?_getD, List.getElem?_eq_getElem hn]; rfl
      have hc := hG.signs n signList[n] (List.getElem?_eq_getElem hn)
      rw [← hs] at hc
      obtain ⟨x, hx⟩ : ∃ x, signF (n : Int) = x := ⟨_, rfl⟩
      rw [hx] at hc ⊢
      have c0 : decide ((n : Int) < 0) = false := decide_eq_false (by omega)
      have c1 : decide (15 ≤ (n : Int)) = false := decide_eq_false h1
      have hlt : (n : Int) < 15 := by omega
      have h00 : 0 ≤ (n : Int) := by omega
      clear hs hG hx hn
      go_enter Tryd.func29, Tryd.ntmps29
      go_wp2
      go_ret
      exact ⟨rfl, rfl⟩
theorem info9 : (Tryd.prog.info? 9).map (fun i => (i.zero, i.size, i.bytes)) = some (some (.string ⟨#[]⟩), 1, 16) := by kernel_rfl
/-- The bound under which texts are walked. -/
def MX : Nat := 4398046511104
theorem mx_le : MX ≤ 4398046511104 := Nat.le_refl _
def TextC (e : S51) : Prop := ∀ (W : World) (A : Option Addr) (c : Nat), GL W → okE e → szE e ≤ MX → Kd.C k51 W A e.f5.length e.f5 → e.f5.length ≤ c →
    Calls Tryd.prog 15 #[.agg #[.int .i64 e.f0, .int .i64 e.f1.f0, .int .i64 e.f1.f1, .int .i64 e.f2, .string e.f3, .int .i64 e.f4, .slice A e.f5.length c]] W fun r w' => r = .returned (.string (bs (txtE e))) ∧ Below W.heap.size W w'
section
variable {p0 p1 num op : Int} {nm : List UInt8} {A : Option Addr} {c : Nat} {kids : List S51} {ts : List (List UInt8)} {K : Int}
set_option maxRecDepth 100000 in
set_option maxHeartbeats 2000000 in
theorem text_num (W : World) (hG : GL W) (hn : i64 num) :
    Calls Tryd.prog 15 #[.agg #[.int .i64 1, .int .i64 p0, .int .i64 p1, .int .i64 num, .string (bs nm), .int .i64 op, .slice A kids.length c]] W fun r w' => r = .returned (.string (bs (txtN 1 num nm op ts))) ∧ Below W.heap.size W w' := by
  have ht : txtN 1 num nm op ts = Lib.itoa num := by unfold txtN; rfl
  rw [ht]
  clear ht
  have HS := Sat.start W
  go_enter Tryd.func15, Tryd.ntmps15
  go_upto_region 1 with ((with_reducible refine gate_dst (N := 1) rfl ?_); go_must (refine ev_box HS rfl (N := 1) rfl (cs := #[.int .i64 1, .int .i64 p0, .int .i64 p1, .int .i64 num, .string (bs nm), .int .i64 op, .slice A kids.length c]) (t := 51) ?hrun ?_); (case hrun => first | (go_simp; done) | (go_simp; rfl)); clear HS; intro gb w HS)
  have cb := HS.cell 0 rfl
  go_wp2_with (go_at_call 27; refine (fmt_at num hn.1 hn.2 _ (hG.below (HS.old 1 rfl)).pow).mono ?_; rintro e w' ⟨rfl, hb⟩; replace HS := HS.below hb; clear hb)
  go_ret
  exact ⟨rfl, HS.old 1 rfl⟩
set_option maxRecDepth 100000 in
set_option maxHeartbeats 2000000 in
theorem text_no (W : World) (hG : GL W) (hn : num = 0) :
    Calls Tryd.prog 15 #[.agg #[.int .i64 2, .int .i64 p0, .int .i64 p1, .int .i64 num, .string (bs nm), .int .i64 op, .slice A kids.length c]] W fun r w' => r = .returned (.string (bs (txtN 2 num nm op ts))) ∧ Below W.heap.size W w' := by
  subst hn
  have ht : txtN 2 0 nm op ts = [102, 97, 108, 115, 101] := by unfold txtN; rfl
  rw [ht]
  clear ht
  have HS := Sat.start W
  go_enter Tryd.func15, Tryd.ntmps15
  go_upto_region 1 with ((with_reducible refine gate_dst (N := 1) rfl ?_); go_must (refine ev_box HS rfl (N := 1) rfl (cs := #[.int .i64 2, .int .i64 p0, .int .i64 p1, .int .i64 0, .string (bs nm), .int .i64 op, .slice A kids.length c]) (t := 51) ?hrun ?_); (case hrun => first | (go_simp; done) | (go_simp; rfl)); clear HS; intro gb w HS)
  have cb := HS.cell 0 rfl
  go_wp2
  go_ret
  exact ⟨rfl, HS.old 1 rfl⟩
set_option maxRecDepth 100000 in
set_option maxHeartbeats 2000000 in
theorem text_yes (W : World) (hG : GL W) (hn : (num == 0) = false) :
    Calls Tryd.prog 15 #[.agg #[.int .i64 2, .int .i64 p0, .int .i64 p1, .int .i64 num, .string (bs nm), .int .i64 op, .slice A kids.length c]] W fun r w' => r = .returned (.string (bs (txtN 2 num nm op ts))) ∧ Below W.heap.size W w' := by
  have ht : txtN 2 num nm op ts = [116, 114, 117, 101] := by unfold txtN; rw [if_neg (by decide), if_pos rfl, if_neg (by simpa using hn)]
  rw [ht]
  clear ht
  have hn2 : (num != 0) = true := by simpa using hn
  have HS := Sat.start W
  go_enter Tryd.func15, Tryd.ntmps15
  go_upto_region 1 with ((with_reducible refine gate_dst (N := 1) rfl ?_); go_must (refine ev_box HS rfl (N := 1) rfl (cs := #[.int .i64 2, .int .i64 p0, .int .i64 p1, .int .i64 num, .string (bs nm), .int .i64 op, .slice A kids.length c]) (t := 51) ?hrun ?_); (case hrun => first | (go_simp; done) | (go_simp; rfl)); clear HS; intro gb w HS)
  have cb := HS.cell 0 rfl
  go_wp2
  go_ret
  exact ⟨rfl, HS.old 1 rfl⟩
set_option maxRecDepth 100000 in
set_option maxHeartbeats 2000000 in
theorem text_var (W : World) (hG : GL W)  :
    Calls Tryd.prog 15 #[.agg #[.int .i64 3, .int .i64 p0, .int .i64 p1, .int .i64 num, .string (bs nm), .int .i64 op, .slice A kids.length c]] W fun r w' => r = .returned (.string (bs (txtN 3 num nm op ts))) ∧ Below W.heap.size W w' := by
  have ht : txtN 3 num nm op ts = nm := by unfold txtN; rfl
  rw [ht]
  clear ht
  have HS := Sat.start W
  go_enter Tryd.func15, Tryd.ntmps15
  go_upto_region 1 with ((with_reducible refine gate_dst (N := 1) rfl ?_); go_must (refine ev_box HS rfl (N := 1) rfl (cs := #[.int .i64 3, .int .i64 p0, .int .i64 p1, .int .i64 num, .string (bs nm), .int .i64 op, .slice A kids.length c]) (t := 51) ?hrun ?_); (case hrun => first | (go_simp; done) | (go_simp; rfl)); clear HS; intro gb w HS)
  have cb := HS.cell 0 rfl
  go_wp2
  go_ret
  exact ⟨rfl, HS.old 1 rfl⟩
theorem bs_map (l : List (List UInt8)) : (l.map bs).map (·.data.toList) = l := by rw [List.map_map]; exact List.map_id _
theorem ret_bs {a b : List UInt8} (h : a = b) : Ending.returned (.string (bs a)) = Ending.returned (.string (bs b)) := by rw [h]
theorem join_ts {w : World} {A : Option Addr} {c : Nat} {ts : List (List UInt8)} {R : List ByteArray} (hR : R = ts.map bs) (hC : Kd.C Kd.string w A R.length R) (hcap : R.length ≤ c) (hN : ts.length ≤ MX) (hl : (Lib.join ts [44, 32]).length ≤ MX) :
    Calls Tryd.prog 28 #[.slice A R.length c, .string (bs [44, 32])] w fun e w' => e = .returned (.string (bs (Lib.join ts [44, 32]))) ∧ Below w.heap.size w w' := by
  subst hR
  have h := join_at hC hcap [44, 32] (by rw [List.length_map]; have := mx_le; omega) (by rw [bs_map]; have := mx_le; omega)
  rw [bs_map] at h
  exact h
theorem rdE {kids : List S51} {i : Nat} (h : i < kids.length) : rd_T51 kids (i : Int) = kids[i] := by
  unfold rd_T51; rw [Int.toNat_natCast, List.getD_eq_getElem?_getD, List.getElem?_eq_getElem h]; rfl
set_option maxRecDepth 100000 in
set_option maxHeartbeats 2000000 in
theorem text_call (W : World) (hG : GL W) (hC : Kd.C k51 W A kids.length kids) (hcap : kids.length ≤ c) (hts : ts = kids.map txtE) (ih : ∀ e ∈ kids, TextC e) (hok : okL kids) (hsz : nm.length + szL kids ≤ MX) :
    Calls Tryd.prog 15 #[.agg #[.int .i64 5, .int .i64 p0, .int .i64 p1, .int .i64 num, .string (bs nm), .int .i64 op, .slice A kids.length c]] W fun r w' => r = .returned (.string (bs (txtN 5 num nm op ts))) ∧ Below W.heap.size W w' := by
  have ht : txtN 5 num nm op ts = nm ++ [40] ++ Lib.join ts [44, 32] ++ [41] := by unfold txtN; rfl
  rw [ht]
  clear ht
  have hjl : (Lib.join ts [44, 32]).length ≤ MX := by
    have h1 := join_len ts
    rw [hts, List.map_map] at h1
    have h2 := sum_le ((fun t : List UInt8 => t.length + 2) ∘ txtE) (fun e => 2 * szE e + 2) kids (fun e he => by
      have := txtE_len e (okL_mem hok he)
      simp only [Function.comp]
      omega)
    rw [← szL_sum] at h2
    rw [hts]
    omega
  have hkl : kids.length ≤ MX := by have := szL_len kids; omega
  have hnm : nm.length ≤ MX := by omega
  have hl : ts.length = kids.length := by rw [hts, List.length_map]
  have HTS := Aside0.mk hts
  have HIH := Aside0.mk ih
  have HOK := Aside0.mk hok
  have HSZ := Aside0.mk hsz
  have HL := Aside0.mk hl
  have HC := Aside0.mk hC
  have HJ := Aside0.mk hjl
  clear hts ih hok hsz hl hC hjl
  have HS := Sat.start W
  go_enter Tryd.func15, Tryd.ntmps15
  go_upto_region 1 with ((with_reducible refine gate_dst (N := 1) rfl ?_); go_must (refine ev_box HS rfl (N := 1) rfl (cs := #[.int .i64 5, .int .i64 p0, .int .i64 p1, .int .i64 num, .string (bs nm), .int .i64 op, .slice A kids.length c]) (t := 51) ?hrun ?_); (case hrun => first | (go_simp; done) | (go_simp; rfl)); clear HS; intro gb w HS)
  have cb := HS.cell 0 rfl
  replace HS := HS.nil Kd.string 9
  go_wp2
  go_loopg [3, 29] (kids.length + 1) (fun kq v3 v29 w' => ∃ (i : Nat), v29 = .int .i64 (i : Int) ∧ Aside0 (i ≤ kids.length ∧ kids.length + 1 ≤ kq + i) ∧
      Aside0 (Sat W w' [row Kd.string 9 v3 ((ts.take i).map bs), blk gb 51 #[.int .i64 5, .int .i64 p0, .int .i64 p1, .int .i64 num, .string (bs nm), .int .i64 op, .slice A kids.length c], old W]))
  case atStart => exact ⟨0, rfl, ⟨by omega, by omega⟩, ⟨HS⟩⟩
  case round =>
    clear HS cb
    obtain ⟨i, rfl, HI, HS'⟩ := hrel
    have HS := HS'.out
    clear HS'
    cases gk with
    | zero => have := HI.out; omega
    | succ k1 =>
      obtain ⟨Av, cv, rfl⟩ := HS.slice 0 rfl
      obtain ⟨R, hR⟩ : ∃ R, R = (ts.take i).map bs := ⟨_, rfl⟩
      rw [← hR] at HS ⊢
      by_cases hk : i < kids.length
      · obtain ⟨I, hI_⟩ : ∃ I : Int, (i : Int) = I := ⟨_, rfl⟩
        have p1 : 0 ≤ I := by omega
        have q1 : I < (kids.length : Int) := by omega
        have c1_ : decide (I < (kids.length : Int)) = true := decide_eq_true q1
        have hbw := HS.old 2 rfl
        obtain ⟨ad, B6, d6, rfl, x0, x1, x2, x3, x4, x5, x6, l6, g6⟩ := at_T51 HC.out I p1 q1
        replace x0 := cell_below x0 hbw
        replace x1 := cell_below x1 hbw
        replace x2 := cell_below x2 hbw
        replace x3 := cell_below x3 hbw
        replace x4 := cell_below x4 hbw
        replace x5 := cell_below x5 hbw
        replace x6 := cell_below x6 hbw
        clear hbw
        have hq : rd_T51 kids I = kids[i] := by rw [← hI_]; exact rdE hk
        obtain ⟨q, hqq⟩ : ∃ q, q = rd_T51 kids I := ⟨_, rfl⟩
        rw [← hqq] at x0 x1 x2 x3 x4 x5 x6 l6 g6 hq
        have hmem : q ∈ kids := by rw [hq]; exact List.getElem_mem hk
        have hq1 := szL_mem hmem
        have HIQ := HIH.out q hmem
        have hlq : (txtE q).length ≤ MX := by have := txtE_len q (okL_mem HOK.out hmem); have := HSZ.out; omega
        have HQ := Aside0.mk (show (ts.take (i + 1)).map bs = R ++ [bs (txtE q)] ∧ R.length = i from by
          have h2 : i < ts.length := by rw [HL.out]; exact hk
          have h3 : ts[i] = txtE q := by rw [hq]; simp [HTS.out]
          refine ⟨by rw [List.take_succ_eq_append_getElem h2, List.map_append, h3, hR]; rfl, by rw [hR, List.length_map, List.length_take]; omega⟩)
        have HTX := Aside0.mk (fun (w : World) (hb : Below W.heap.size W w) => HIQ w B6 d6 (hG.below hb) (okL_mem HOK.out hmem) (by have := HSZ.out; omega) (Kd.C_below g6 hb) l6)
        have hwi : wrap64 (I + 1) = I + 1 := w64 _ (by omega) (by have := mx_le; omega)
        have HII := Aside0.mk (show (i : Int) = I ∧ i < kids.length from ⟨hI_, hk⟩)
        rw [hI_]
        clear hq hqq hmem HIQ hI_ hk hq1 g6 hlq hR
        have r1 := eq_true p1
        have r2 := eq_true q1
        go_upto_region 15 with (first | ((with_reducible refine gate_dst (N := 5) rfl ?_); go_must (refine ev_box HS rfl (N := 5) rfl (cs := #[.int .i64 0, .int .i64 0, .int .i64 0, .int .i64 0, .string ⟨#[]⟩, .int .i64 0, .slice none 0 0]) (t := 51) ?hrun ?_); (case hrun => first | (go_simp; done) | (go_simp; rfl)); clear HS; intro g5 w HS) | ((with_reducible refine gate_store (t := 51) (p := 5) rfl ?_); go_must (refine ev_store HS 0 rfl rfl 51 (.tmp 5) (.tmp 32) rfl rfl rfl [.int .i64 q.f0, .int .i64 q.f1.f0, .int .i64 q.f1.f1, .int .i64 q.f2, .string q.f3, .int .i64 q.f4, .slice B6 q.f5.length d6] ?hx (by kernel_rfl) (by rfl) ?h1 ?_); (case hx => first | rfl | (go_simp; done)); (case h1 => simp [Value.oneCell']); clear HS; intro w HS))
        have hob := HS.old 3 rfl
        go_upto_region 16 with (first | ((with_reducible refine gate_load (ty := 51) (p := 5) rfl ?_); go_must (refine ev_load HS 0 rfl rfl 51 (.tmp 5) rfl (N := 34) rfl rfl _ Tryd.underlying51 rfl (by kernel_rfl) ?_)) | (go_at_call 15; refine (HTX.out _ hob).mono ?_; rintro e w_ ⟨rfl, hb⟩; replace HS := HS.below hb; clear hb hob) | ((with_reducible refine gate_dst (N := 36) rfl ?_); go_must (refine ev_lit Kd.string (e := 9) HS rfl (N := 36) rfl (xs := [bs (txtE q)]) (inner := [.string (bs (txtE q))]) ?hrun ((Reps.none _ _).snoc (show Kd.string.M _ _ _ _ _ from rfl) rfl) (by first | decide | simp) ?_); (case hrun => first | (go_simp; done) | (go_simp; rfl)); clear HS; intro gl w HS) | ((with_reducible refine gate_builtin (b := .append) (xs := #[.tmp 33, .tmp 36]) rfl ?_); go_must (refine ev_append Kd.string HS 2 (.tmp 33) (.tmp 36) 38 9 (.string ⟨#[]⟩) 16 rfl (HS.C 0 rfl) (fun _ _ h => h) rfl rfl rfl rfl Tryd.underlying38 info9 rfl (by decide) (by omega) ((by simp only [List.length_cons, List.length_nil]; rw [HQ.out.2]; have := HI.out; have := mx_le; omega)) ?_); clear HS; intro vo w HS))
        go_wp2
        go_roundg k1
        case measure => omega
        case rel =>
          have h1 := HII.out
          refine ⟨i + 1, by rw [hwi, ← h1.1]; rfl, ⟨by omega, by have := HI.out; omega⟩, ⟨?_⟩⟩
          rw [HQ.out.1]
          exact HS.tail.tail
      · have hkk : i = kids.length := by have := HI.out.1; omega
        subst hkk
        have hkb : decide (kids.length < kids.length) = false := decide_eq_false (Nat.lt_irrefl _)
        have hte : ts.take kids.length = ts := by rw [← HL.out]; exact List.take_length
        rw [hte] at hR
        have HRR := Aside0.mk (show R = ts.map bs ∧ R.length = ts.length from ⟨hR, by rw [hR, List.length_map]⟩)
        clear hte hk hR
        have hjl := HJ.out
        go_wp2
        refine start_ (n := 8) (S := fun w' => ∃ L', Sat W w' (blk gb 51 #[.int .i64 5, .int .i64 p0, .int .i64 p1, .int .i64 num, .string (bs nm), .int .i64 op, .slice A kids.length c] :: L')) (ds := []) #[false, false, false, false, false, false, false, false] (by kernel_rfl) rfl rfl ⟨_, HS.drew.front 1 rfl⟩ (fun hHeld => ?_)
        replace HS := HS.drew
        generalize World.drew wr = w at HS hHeld ⊢
        refine pure_ (i := 0) (N := some 39) (v := ?_) (a' := ?_) #[true, false, false, false, false, false, false, false] rfl rfl (by kernel_rfl) (fun _ _ _ h => h) (Or.inl ⟨by rfl, ?_⟩) ?_ ?_
        rotate_left
        · intro w'
          go_simp
          with_reducible rfl
        rotate_left
        · (try simp only [Act.put, List.setIfInBounds_toArray, List.set_cons_zero, List.set_cons_succ, i64_w, i32_w])
          rfl
        refine take_ (i := 1) (N := some 40) (v := ?_) (a' := ?_) #[true, true, false, false, false, false, false, false] rfl rfl (by kernel_rfl) (fun _ _ _ h => h) (Or.inl ⟨by rfl, ?_⟩) hHeld ?_ ?_
        rotate_left
        · rintro w' hS
          obtain ⟨L', hS⟩ := hS
          have cb := hS.cell 0 rfl
          go_simp
          with_reducible rfl
        rotate_left
        · (try simp only [Act.put, List.setIfInBounds_toArray, List.set_cons_zero, List.set_cons_succ, i64_w, i32_w])
          rfl
        refine pure_ (i := 2) (N := some 41) (v := .string (bs ((nm) ++ ([40])))) (a' := ?_) #[true, true, true, false, false, false, false, false] rfl rfl (by kernel_rfl) (fun _ _ _ h => h) (Or.inl ⟨by rfl, ?_⟩) ?_ ?_
        · intro w'
          exact run_cat (t := 9) (t' := 9) (p := nm) (q := [40]) Tryd.underlying9 rfl rfl rfl (by simp only [List.length_append, List.length_cons, List.length_nil]; have := mx_le; omega) w'
        rotate_left
        · (try simp only [Act.put, List.setIfInBounds_toArray, List.set_cons_zero, List.set_cons_succ, i64_w, i32_w])
          rfl
        refine pure_ (i := 3) (N := some 42) (v := ?_) (a' := ?_) #[true, true, true, true, false, false, false, false] rfl rfl (by kernel_rfl) (fun _ _ _ h => h) (Or.inl ⟨by rfl, ?_⟩) ?_ ?_
        rotate_left
        · intro w'
          go_simp
          with_reducible rfl
        rotate_left
        · (try simp only [Act.put, List.setIfInBounds_toArray, List.set_cons_zero, List.set_cons_succ, i64_w, i32_w])
          rfl
        refine one_ (i := 4) (N := some 43) #[true, true, true, true, true, false, false, false] rfl rfl (by kernel_rfl) (by decide) (fun K hK => ?_)
        refine goes_ Tryd.func28 (by kernel_rfl) rfl #[.slice Av R.length cv, .string (bs [44, 32])] (by rfl) rfl rfl (by (try simp only [List.map_toArray, List.map_cons, List.map_nil]); first | done | rfl) ?_
        refine (join_ts HRR.out.1 (HS.C 0 rfl) (HS.cap 0 rfl).2 (by rw [HL.out]; exact hkl) HJ.out).mono ?_
        rintro e w_ ⟨rfl, hb⟩
        refine ⟨_, rfl, ?_⟩
        replace HS := HS.below hb
        clear hb
        refine hK.out _ _ ⟨_, HS.front 1 rfl⟩ (fun hHeld => ?_)
        clear hK K
        refine norm_ (a' := ?_) ?_ ?_
        rotate_left
        · show Act.put _ _ _ = _
          (try simp only [Act.put, List.setIfInBounds_toArray, List.set_cons_zero, List.set_cons_succ, i64_w, i32_w])
          rfl
        refine pure_ (i := 5) (N := some 44) (v := .string (bs ((nm ++ [40]) ++ (Lib.join ts [44, 32])))) (a' := ?_) #[true, true, true, true, true, true, false, false] rfl rfl (by kernel_rfl) (fun _ _ _ h => h) (Or.inl ⟨by rfl, ?_⟩) ?_ ?_
        · intro w'
          exact run_cat (t := 9) (t' := 9) (p := nm ++ [40]) (q := Lib.join ts [44, 32]) Tryd.underlying9 rfl rfl rfl (by simp only [List.length_append, List.length_cons, List.length_nil]; have := mx_le; omega) w'
        rotate_left
        · (try simp only [Act.put, List.setIfInBounds_toArray, List.set_cons_zero, List.set_cons_succ, i64_w, i32_w])
          rfl
        refine pure_ (i := 6) (N := some 45) (v := .string (bs ((nm ++ [40] ++ Lib.join ts [44, 32]) ++ ([41])))) (a' := ?_) #[true, true, true, true, true, true, true, false] rfl rfl (by kernel_rfl) (fun _ _ _ h => h) (Or.inl ⟨by rfl, ?_⟩) ?_ ?_
        · intro w'
          exact run_cat (t := 9) (t' := 9) (p := nm ++ [40] ++ Lib.join ts [44, 32]) (q := [41]) Tryd.underlying9 rfl rfl rfl (by simp only [List.length_append, List.length_cons, List.length_nil]; have := mx_le; omega) w'
        rotate_left
        · (try simp only [Act.put, List.setIfInBounds_toArray, List.set_cons_zero, List.set_cons_succ, i64_w, i32_w])
          rfl
        refine pure_ (i := 7) (N := some 2) (v := ?_) (a' := ?_) #[true, true, true, true, true, true, true, true] rfl rfl (by kernel_rfl) (fun _ _ _ h => h) (Or.inl ⟨by rfl, ?_⟩) ?_ ?_
        rotate_left
        · intro w'
          go_simp
          with_reducible rfl
        rotate_left
        · (try simp only [Act.put, List.setIfInBounds_toArray, List.set_cons_zero, List.set_cons_succ, i64_w, i32_w])
          rfl
        refine done_ (by kernel_rfl) ?_
        clear hHeld
        go_wp2
        go_ret
        exact ⟨ret_bs (by simp), HS.old 2 rfl⟩
set_option maxRecDepth 100000 in
set_option maxHeartbeats 2000000 in
theorem text_none (W : World) (hG : GL W) (k1 : (K == 1) = false) (k2 : (K == 2) = false) (k3 : (K == 3) = false) (k5 : (K == 5) = false) (hk0 : kids.length = 0) (hl : ts.length = 0) :
    Calls Tryd.prog 15 #[.agg #[.int .i64 K, .int .i64 p0, .int .i64 p1, .int .i64 num, .string (bs nm), .int .i64 op, .slice A kids.length c]] W fun r w' => r = .returned (.string (bs (txtN K num nm op ts))) ∧ Below W.heap.size W w' := by
  have n1 : ¬ K = 1 := by simpa using k1
  have n2 : ¬ K = 2 := by simpa using k2
  have n3 : ¬ K = 3 := by simpa using k3
  have n5 : ¬ K = 5 := by simpa using k5
  have ht : txtN K num nm op ts = [63] := by unfold txtN; rw [if_neg n1, if_neg n2, if_neg n3, if_neg n5, if_pos hl]
  rw [ht]
  clear ht n1 n2 n3 n5 hl
  obtain rfl : kids = [] := List.length_eq_zero_iff.1 hk0
  clear hk0
  have HS := Sat.start W
  go_enter Tryd.func15, Tryd.ntmps15
  go_upto_region 1 with ((with_reducible refine gate_dst (N := 1) rfl ?_); go_must (refine ev_box HS rfl (N := 1) rfl (cs := #[.int .i64 K, .int .i64 p0, .int .i64 p1, .int .i64 num, .string (bs nm), .int .i64 op, .slice A 0 c]) (t := 51) ?hrun ?_); (case hrun => first | (go_simp; done) | (go_simp; rfl)); clear HS; intro gb w HS)
  have cb := HS.cell 0 rfl
  go_wp2
  go_ret
  exact ⟨rfl, HS.old 1 rfl⟩
set_option maxRecDepth 100000 in
set_option maxHeartbeats 2000000 in
theorem text_index (W : World) (hG : GL W) (hcap : kids.length ≤ c) (hC : Kd.C k51 W A kids.length kids) (hk0 : 0 < kids.length) (hts : ts = kids.map txtE) (ih : ∀ e ∈ kids, TextC e) (hok : okL kids) (hsz : nm.length + szL kids ≤ MX) :
    Calls Tryd.prog 15 #[.agg #[.int .i64 4, .int .i64 p0, .int .i64 p1, .int .i64 num, .string (bs nm), .int .i64 op, .slice A kids.length c]] W fun r w' => r = .returned (.string (bs (txtN 4 num nm op ts))) ∧ Below W.heap.size W w' := by
  have hl : ts.length = kids.length := by rw [hts, List.length_map]
  obtain ⟨ad, B0, d0, rfl, X0, X1, X2, X3, X4, X5, X6, l0, g0⟩ := at_T51 hC 0 (by decide) (by omega)
  obtain ⟨J, hJ⟩ : ∃ J : Int, (kids.length : Int) - 1 = J := ⟨_, rfl⟩
  obtain ⟨_, B1, d1, e1, Y0, Y1, Y2, Y3, Y4, Y5, Y6, l1, g1⟩ := at_T51 hC J (by omega) (by omega)
  cases e1
  have hq0 : rd_T51 kids 0 = kids[0] := rdE (i := 0) hk0
  have hq1 : rd_T51 kids J = kids[kids.length - 1] := by
    have h := rdE (kids := kids) (i := kids.length - 1) (by omega)
    rw [show ((kids.length - 1 : Nat) : Int) = J by omega] at h
    exact h
  obtain ⟨q0, h0⟩ : ∃ q, q = rd_T51 kids 0 := ⟨_, rfl⟩
  obtain ⟨q1, h1⟩ : ∃ q, q = rd_T51 kids J := ⟨_, rfl⟩
  rw [← h0] at X0 X1 X2 X3 X4 X5 X6 l0 g0 hq0
  rw [← h1] at Y0 Y1 Y2 Y3 Y4 Y5 Y6 l1 g1 hq1
  change W.cell? ad = _ at X0
  change W.cell? ⟨ad.block, ad.off + 1, none⟩ = _ at X1
  change W.cell? ⟨ad.block, ad.off + 2, none⟩ = _ at X2
  change W.cell? ⟨ad.block, ad.off + 3, none⟩ = _ at X3
  change W.cell? ⟨ad.block, ad.off + 4, none⟩ = _ at X4
  change W.cell? ⟨ad.block, ad.off + 5, none⟩ = _ at X5
  change W.cell? ⟨ad.block, ad.off + 6, none⟩ = _ at X6
  have hm0 : q0 ∈ kids := by rw [hq0]; exact List.getElem_mem _
  have hm1 : q1 ∈ kids := by rw [hq1]; exact List.getElem_mem _
  have hs0 := szL_mem hm0
  have hs1 := szL_mem hm1
  have hla : (txtE q0).length ≤ MX := by have := txtE_len q0 (okL_mem hok hm0); omega
  have hlb : (txtE q1).length ≤ MX := by have := txtE_len q1 (okL_mem hok hm1); omega
  have hnm : nm.length ≤ MX := by omega
  have hkl : kids.length ≤ MX := by have := szL_len kids; omega
  have ta : ts.getD 0 [] = txtE q0 := by rw [hts, List.getD_eq_getElem?_getD, List.getElem?_map, List.getElem?_eq_getElem hk0, hq0]; rfl
  have tb : ts.getD (ts.length - 1) [] = txtE q1 := by rw [hl, hts, List.getD_eq_getElem?_getD, List.getElem?_map, List.getElem?_eq_getElem (show kids.length - 1 < kids.length by omega), hq1]; rfl
  have HT0 := Aside0.mk (fun (w : World) (hb : Below W.heap.size W w) => ih q0 hm0 w B0 d0 (hG.below hb) (okL_mem hok hm0) (by omega) (Kd.C_below g0 hb) l0)
  have HT1 := Aside0.mk (fun (w : World) (hb : Below W.heap.size W w) => ih q1 hm1 w B1 d1 (hG.below hb) (okL_mem hok hm1) (by omega) (Kd.C_below g1 hb) l1)
  replace X0 := Aside0.mk X0
  replace Y0 := Aside0.mk Y0
  replace X1 := Aside0.mk X1
  replace Y1 := Aside0.mk Y1
  replace X2 := Aside0.mk X2
  replace Y2 := Aside0.mk Y2
  replace X3 := Aside0.mk X3
  replace Y3 := Aside0.mk Y3
  replace X4 := Aside0.mk X4
  replace Y4 := Aside0.mk Y4
  replace X5 := Aside0.mk X5
  replace Y5 := Aside0.mk Y5
  replace X6 := Aside0.mk X6
  replace Y6 := Aside0.mk Y6
  have hts0 : ¬ ts.length = 0 := by omega
  have ht : txtN 4 num nm op ts = nm ++ [91] ++ txtE q0 ++ [93] := by unfold txtN; rw [if_neg (by decide), if_neg (by decide), if_neg (by decide), if_neg (by decide), if_neg hts0, if_pos rfl, ta]
  rw [ht]
  clear ht
  clear ta tb hts ih hok hsz hC hl hq0 hq1 h0 h1 hm0 hm1 hs0 hs1 hts0 l0 l1 g0 g1
  have z0 : ((kids.length : Int) == 0) = false := beq_eq_false_iff_ne.2 (by omega)
  have z1 : (kids.length == 0) = false := beq_eq_false_iff_ne.2 (by omega)
  have w1 : wrap64 J = J := w64 _ (by omega) (by have := mx_le; omega)
  have p0_ : (0 ≤ J) = True := eq_true (by omega)
  have q0_ : (J < (kids.length : Int)) = True := eq_true (by omega)
  have p2 : ((0 : Int) < (kids.length : Int)) = True := eq_true (by omega)
  have p3 : (0 < kids.length) = True := eq_true hk0
  clear hk0
  obtain ⟨a, ha⟩ : ∃ a, a = txtE q0 := ⟨_, rfl⟩
  obtain ⟨b, hb_⟩ : ∃ b, b = txtE q1 := ⟨_, rfl⟩
  rw [← ha] at HT0 hla
  rw [← hb_] at HT1 hlb
  try rw [← ha]
  try rw [← hb_]
  clear ha hb_
  have HS := Sat.start W
  go_enter Tryd.func15, Tryd.ntmps15
  go_upto_region 1 with ((with_reducible refine gate_dst (N := 1) rfl ?_); go_must (refine ev_box HS rfl (N := 1) rfl (cs := #[.int .i64 4, .int .i64 p0, .int .i64 p1, .int .i64 num, .string (bs nm), .int .i64 op, .slice (some ad) kids.length c]) (t := 51) ?hrun ?_); (case hrun => first | (go_simp; done) | (go_simp; rfl)); clear HS; intro gb w HS)
  have cb := HS.cell 0 rfl
  go_wp2
  refine start_ (n := 16) (S := fun w' => Sat W w' [blk gb 51 #[.int .i64 4, .int .i64 p0, .int .i64 p1, .int .i64 num, .string (bs nm), .int .i64 op, .slice (some ad) kids.length c], old W]) (ds := []) #[false, false, false, false, false, false, false, false, false, false, false, false, false, false, false, false] (by kernel_rfl) rfl rfl HS.drew (fun hHeld => ?_)
  replace HS := HS.drew
  generalize World.drew w = w at HS hHeld ⊢
  refine pure_ (i := 0) (N := some 50) (v := ?_) (a' := ?_) #[true, false, false, false, false, false, false, false, false, false, false, false, false, false, false, false] rfl rfl (by kernel_rfl) (fun _ _ _ h => h) (Or.inl ⟨by rfl, ?_⟩) ?_ ?_
  rotate_left
  · intro w'
    go_simp
    with_reducible rfl
  rotate_left
  · (try simp only [Act.put, List.setIfInBounds_toArray, List.set_cons_zero, List.set_cons_succ, i64_w, i32_w])
    rfl
  refine take_ (i := 1) (N := some 51) (v := ?_) (a' := ?_) #[true, true, false, false, false, false, false, false, false, false, false, false, false, false, false, false] rfl rfl (by kernel_rfl) (fun _ _ _ h => h) (Or.inl ⟨by rfl, ?_⟩) hHeld ?_ ?_
  rotate_left
  · rintro w' hS
    have cb := hS.cell 0 rfl
    have hbw := hS.old 1 rfl
    have x0 := cell_below X0.out hbw
    have x1 := cell_below X1.out hbw
    have x2 := cell_below X2.out hbw
    have x3 := cell_below X3.out hbw
    have x4 := cell_below X4.out hbw
    have x5 := cell_below X5.out hbw
    have x6 := cell_below X6.out hbw
    have y0 := cell_below Y0.out hbw
    have y1 := cell_below Y1.out hbw
    have y2 := cell_below Y2.out hbw
    have y3 := cell_below Y3.out hbw
    have y4 := cell_below Y4.out hbw
    have y5 := cell_below Y5.out hbw
    have y6 := cell_below Y6.out hbw
    clear hbw
    go_simp
    with_reducible rfl
  rotate_left
  · (try simp only [Act.put, List.setIfInBounds_toArray, List.set_cons_zero, List.set_cons_succ, i64_w, i32_w])
    rfl
  refine pure_ (i := 2) (N := some 52) (v := ?_) (a' := ?_) #[true, true, true, false, false, false, false, false, false, false, false, false, false, false, false, false] rfl rfl (by kernel_rfl) (fun _ _ _ h => h) (Or.inl ⟨by rfl, ?_⟩) ?_ ?_
  rotate_left
  · intro w'
    go_simp
    with_reducible rfl
  rotate_left
  · (try simp only [Act.put, List.setIfInBounds_toArray, List.set_cons_zero, List.set_cons_succ, i64_w, i32_w])
    rfl
  refine take_ (i := 3) (N := some 53) (v := ?_) (a' := ?_) #[true, true, true, true, false, false, false, false, false, false, false, false, false, false, false, false] rfl rfl (by kernel_rfl) (fun _ _ _ h => h) (Or.inl ⟨by rfl, ?_⟩) hHeld ?_ ?_
  rotate_left
  · rintro w' hS
    have cb := hS.cell 0 rfl
    have hbw := hS.old 1 rfl
    have x0 := cell_below X0.out hbw
    have x1 := cell_below X1.out hbw
    have x2 := cell_below X2.out hbw
    have x3 := cell_below X3.out hbw
    have x4 := cell_below X4.out hbw
    have x5 := cell_below X5.out hbw
    have x6 := cell_below X6.out hbw
    have y0 := cell_below Y0.out hbw
    have y1 := cell_below Y1.out hbw
    have y2 := cell_below Y2.out hbw
    have y3 := cell_below Y3.out hbw
    have y4 := cell_below Y4.out hbw
    have y5 := cell_below Y5.out hbw
    have y6 := cell_below Y6.out hbw
    clear hbw
    go_simp
    with_reducible rfl
  rotate_left
  · (try simp only [Act.put, List.setIfInBounds_toArray, List.set_cons_zero, List.set_cons_succ, i64_w, i32_w])
    rfl
  refine pure_ (i := 5) (N := some 55) (v := ?_) (a' := ?_) #[true, true, true, true, false, true, false, false, false, false, false, false, false, false, false, false] rfl rfl (by kernel_rfl) (fun _ _ _ h => h) (Or.inl ⟨by rfl, ?_⟩) ?_ ?_
  rotate_left
  · intro w'
    go_simp
    with_reducible rfl
  rotate_left
  · (try simp only [Act.put, List.setIfInBounds_toArray, List.set_cons_zero, List.set_cons_succ, i64_w, i32_w])
    rfl
  refine take_ (i := 6) (N := some 56) (v := ?_) (a' := ?_) #[true, true, true, true, false, true, true, false, false, false, false, false, false, false, false, false] rfl rfl (by kernel_rfl) (fun _ _ _ h => h) (Or.inl ⟨by rfl, ?_⟩) hHeld ?_ ?_
  rotate_left
  · rintro w' hS
    have cb := hS.cell 0 rfl
    have hbw := hS.old 1 rfl
    have x0 := cell_below X0.out hbw
    have x1 := cell_below X1.out hbw
    have x2 := cell_below X2.out hbw
    have x3 := cell_below X3.out hbw
    have x4 := cell_below X4.out hbw
    have x5 := cell_below X5.out hbw
    have x6 := cell_below X6.out hbw
    have y0 := cell_below Y0.out hbw
    have y1 := cell_below Y1.out hbw
    have y2 := cell_below Y2.out hbw
    have y3 := cell_below Y3.out hbw
    have y4 := cell_below Y4.out hbw
    have y5 := cell_below Y5.out hbw
    have y6 := cell_below Y6.out hbw
    clear hbw
    go_simp
    with_reducible rfl
  rotate_left
  · (try simp only [Act.put, List.setIfInBounds_toArray, List.set_cons_zero, List.set_cons_succ, i64_w, i32_w])
    rfl
  refine pure_ (i := 7) (N := some 57) (v := ?_) (a' := ?_) #[true, true, true, true, false, true, true, true, false, false, false, false, false, false, false, false] rfl rfl (by kernel_rfl) (fun _ _ _ h => h) (Or.inl ⟨by rfl, ?_⟩) ?_ ?_
  rotate_left
  · intro w'
    go_simp
    with_reducible rfl
  rotate_left
  · (try simp only [Act.put, List.setIfInBounds_toArray, List.set_cons_zero, List.set_cons_succ, i64_w, i32_w])
    rfl
  refine take_ (i := 8) (N := some 58) (v := ?_) (a' := ?_) #[true, true, true, true, false, true, true, true, true, false, false, false, false, false, false, false] rfl rfl (by kernel_rfl) (fun _ _ _ h => h) (Or.inl ⟨by rfl, ?_⟩) hHeld ?_ ?_
  rotate_left
  · rintro w' hS
    have cb := hS.cell 0 rfl
    have hbw := hS.old 1 rfl
    have x0 := cell_below X0.out hbw
    have x1 := cell_below X1.out hbw
    have x2 := cell_below X2.out hbw
    have x3 := cell_below X3.out hbw
    have x4 := cell_below X4.out hbw
    have x5 := cell_below X5.out hbw
    have x6 := cell_below X6.out hbw
    have y0 := cell_below Y0.out hbw
    have y1 := cell_below Y1.out hbw
    have y2 := cell_below Y2.out hbw
    have y3 := cell_below Y3.out hbw
    have y4 := cell_below Y4.out hbw
    have y5 := cell_below Y5.out hbw
    have y6 := cell_below Y6.out hbw
    clear hbw
    go_simp
    with_reducible rfl
  rotate_left
  · (try simp only [Act.put, List.setIfInBounds_toArray, List.set_cons_zero, List.set_cons_succ, i64_w, i32_w])
    rfl
  refine pure_ (i := 9) (N := some 59) (v := ?_) (a' := ?_) #[true, true, true, true, false, true, true, true, true, true, false, false, false, false, false, false] rfl rfl (by kernel_rfl) (fun _ _ _ h => h) (Or.inl ⟨by rfl, ?_⟩) ?_ ?_
  rotate_left
  · intro w'
    go_simp
    with_reducible rfl
  rotate_left
  · (try simp only [Act.put, List.setIfInBounds_toArray, List.set_cons_zero, List.set_cons_succ, i64_w, i32_w])
    rfl
  refine pure_ (i := 10) (N := some 60) (v := ?_) (a' := ?_) #[true, true, true, true, false, true, true, true, true, true, true, false, false, false, false, false] rfl rfl (by kernel_rfl) (fun _ _ _ h => h) (Or.inl ⟨by rfl, ?_⟩) ?_ ?_
  rotate_left
  · intro w'
    go_simp
    with_reducible rfl
  rotate_left
  · (try simp only [Act.put, List.setIfInBounds_toArray, List.set_cons_zero, List.set_cons_succ, i64_w, i32_w])
    rfl
  refine pure_ (i := 11) (N := some 61) (v := ?_) (a' := ?_) #[true, true, true, true, false, true, true, true, true, true, true, true, false, false, false, false] rfl rfl (by kernel_rfl) (fun _ _ _ h => h) (Or.inl ⟨by rfl, ?_⟩) ?_ ?_
  rotate_left
  · intro w'
    go_simp
    with_reducible rfl
  rotate_left
  · (try simp only [Act.put, List.setIfInBounds_toArray, List.set_cons_zero, List.set_cons_succ, i64_w, i32_w])
    rfl
  refine take_ (i := 12) (N := some 62) (v := ?_) (a' := ?_) #[true, true, true, true, false, true, true, true, true, true, true, true, true, false, false, false] rfl rfl (by kernel_rfl) (fun _ _ _ h => h) (Or.inl ⟨by rfl, ?_⟩) hHeld ?_ ?_
  rotate_left
  · rintro w' hS
    have cb := hS.cell 0 rfl
    have hbw := hS.old 1 rfl
    have x0 := cell_below X0.out hbw
    have x1 := cell_below X1.out hbw
    have x2 := cell_below X2.out hbw
    have x3 := cell_below X3.out hbw
    have x4 := cell_below X4.out hbw
    have x5 := cell_below X5.out hbw
    have x6 := cell_below X6.out hbw
    have y0 := cell_below Y0.out hbw
    have y1 := cell_below Y1.out hbw
    have y2 := cell_below Y2.out hbw
    have y3 := cell_below Y3.out hbw
    have y4 := cell_below Y4.out hbw
    have y5 := cell_below Y5.out hbw
    have y6 := cell_below Y6.out hbw
    clear hbw
    go_simp
    with_reducible rfl
  rotate_left
  · (try simp only [Act.put, List.setIfInBounds_toArray, List.set_cons_zero, List.set_cons_succ, i64_w, i32_w])
    rfl
  refine one_ (i := 4) (N := some 54) #[true, true, true, true, true, true, true, true, true, true, true, true, true, false, false, false] rfl rfl (by kernel_rfl) (by decide) (fun K hK => ?_)
  refine goes_ Tryd.func15 (by kernel_rfl) rfl #[.agg #[.int .i64 q0.f0, .int .i64 q0.f1.f0, .int .i64 q0.f1.f1, .int .i64 q0.f2, .string q0.f3, .int .i64 q0.f4, .slice B0 q0.f5.length d0]] (by rfl) rfl rfl (by (try simp only [List.map_toArray, List.map_cons, List.map_nil]); first | done | rfl) ?_
  refine (HT0.out _ (HS.old 1 rfl)).mono ?_
  rintro e w_ ⟨rfl, hb⟩
  refine ⟨_, rfl, ?_⟩
  replace HS := HS.below hb
  clear hb
  refine hK.out _ _ HS (fun hHeld => ?_)
  clear hK K
  refine norm_ (a' := ?_) ?_ ?_
  rotate_left
  · show Act.put _ _ _ = _
    (try simp only [Act.put, List.setIfInBounds_toArray, List.set_cons_zero, List.set_cons_succ, i64_w, i32_w])
    rfl
  refine one_ (i := 13) (N := some 63) #[true, true, true, true, true, true, true, true, true, true, true, true, true, true, false, false] rfl rfl (by kernel_rfl) (by decide) (fun K hK => ?_)
  refine goes_ Tryd.func15 (by kernel_rfl) rfl #[.agg #[.int .i64 q1.f0, .int .i64 q1.f1.f0, .int .i64 q1.f1.f1, .int .i64 q1.f2, .string q1.f3, .int .i64 q1.f4, .slice B1 q1.f5.length d1]] (by rfl) rfl rfl (by (try simp only [List.map_toArray, List.map_cons, List.map_nil]); first | done | rfl) ?_
  refine (HT1.out _ (HS.old 1 rfl)).mono ?_
  rintro e w_ ⟨rfl, hb⟩
  refine ⟨_, rfl, ?_⟩
  replace HS := HS.below hb
  clear hb
  refine hK.out _ _ HS (fun hHeld => ?_)
  clear hK K
  refine norm_ (a' := ?_) ?_ ?_
  rotate_left
  · show Act.put _ _ _ = _
    (try simp only [Act.put, List.setIfInBounds_toArray, List.set_cons_zero, List.set_cons_succ, i64_w, i32_w])
    rfl
  refine pure_ (i := 14) (N := some 6) (v := ?_) (a' := ?_) #[true, true, true, true, true, true, true, true, true, true, true, true, true, true, true, false] rfl rfl (by kernel_rfl) (fun _ _ _ h => h) (Or.inl ⟨by rfl, ?_⟩) ?_ ?_
  rotate_left
  · intro w'
    go_simp
    with_reducible rfl
  rotate_left
  · (try simp only [Act.put, List.setIfInBounds_toArray, List.set_cons_zero, List.set_cons_succ, i64_w, i32_w])
    rfl
  refine pure_ (i := 15) (N := some 7) (v := ?_) (a' := ?_) #[true, true, true, true, true, true, true, true, true, true, true, true, true, true, true, true] rfl rfl (by kernel_rfl) (fun _ _ _ h => h) (Or.inl ⟨by rfl, ?_⟩) ?_ ?_
  rotate_left
  · intro w'
    go_simp
    with_reducible rfl
  rotate_left
  · (try simp only [Act.put, List.setIfInBounds_toArray, List.set_cons_zero, List.set_cons_succ, i64_w, i32_w])
    rfl
  refine done_ (by kernel_rfl) ?_
  clear hHeld
  have cb := HS.cell 0 rfl
  go_wp2_with (first | ((with_reducible refine gate_bin (b := .add) (t := 9) (t' := 9) rfl ?_); go_must (refine ev_cat Tryd.underlying9 rfl rfl rfl rfl rfl (by simp only [List.length_append, List.length_cons, List.length_nil]; have := mx_le; omega) ?_)))
  go_ret
  exact ⟨ret_bs (by simp), HS.old 1 rfl⟩
set_option maxRecDepth 100000 in
set_option maxHeartbeats 2000000 in
theorem text_not (W : World) (hG : GL W) (hcap : kids.length ≤ c) (hC : Kd.C k51 W A kids.length kids) (hk0 : 0 < kids.length) (hts : ts = kids.map txtE) (ih : ∀ e ∈ kids, TextC e) (hok : okL kids) (hsz : nm.length + szL kids ≤ MX) :
    Calls Tryd.prog 15 #[.agg #[.int .i64 9, .int .i64 p0, .int .i64 p1, .int .i64 num, .string (bs nm), .int .i64 op, .slice A kids.length c]] W fun r w' => r = .returned (.string (bs (txtN 9 num nm op ts))) ∧ Below W.heap.size W w' := by
  have hl : ts.length = kids.length := by rw [hts, List.length_map]
  obtain ⟨ad, B0, d0, rfl, X0, X1, X2, X3, X4, X5, X6, l0, g0⟩ := at_T51 hC 0 (by decide) (by omega)
  obtain ⟨J, hJ⟩ : ∃ J : Int, (kids.length : Int) - 1 = J := ⟨_, rfl⟩
  obtain ⟨_, B1, d1, e1, Y0, Y1, Y2, Y3, Y4, Y5, Y6, l1, g1⟩ := at_T51 hC J (by omega) (by omega)
  cases e1
  have hq0 : rd_T51 kids 0 = kids[0] := rdE (i := 0) hk0
  have hq1 : rd_T51 kids J = kids[kids.length - 1] := by
    have h := rdE (kids := kids) (i := kids.length - 1) (by omega)
    rw [show ((kids.length - 1 : Nat) : Int) = J by omega] at h
    exact h
  obtain ⟨q0, h0⟩ : ∃ q, q = rd_T51 kids 0 := ⟨_, rfl⟩
  obtain ⟨q1, h1⟩ : ∃ q, q = rd_T51 kids J := ⟨_, rfl⟩
  rw [← h0] at X0 X1 X2 X3 X4 X5 X6 l0 g0 hq0
  rw [← h1] at Y0 Y1 Y2 Y3 Y4 Y5 Y6 l1 g1 hq1
  change W.cell? ad = _ at X0
  change W.cell? ⟨ad.block, ad.off + 1, none⟩ = _ at X1
  change W.cell? ⟨ad.block, ad.off + 2, none⟩ = _ at X2
  change W.cell? ⟨ad.block, ad.off + 3, none⟩ = _ at X3
  change W.cell? ⟨ad.block, ad.off + 4, none⟩ = _ at X4
  change W.cell? ⟨ad.block, ad.off + 5, none⟩ = _ at X5
  change W.cell? ⟨ad.block, ad.off + 6, none⟩ = _ at X6
  have hm0 : q0 ∈ kids := by rw [hq0]; exact List.getElem_mem _
  have hm1 : q1 ∈ kids := by rw [hq1]; exact List.getElem_mem _
  have hs0 := szL_mem hm0
  have hs1 := szL_mem hm1
  have hla : (txtE q0).length ≤ MX := by have := txtE_len q0 (okL_mem hok hm0); omega
  have hlb : (txtE q1).length ≤ MX := by have := txtE_len q1 (okL_mem hok hm1); omega
  have hnm : nm.length ≤ MX := by omega
  have hkl : kids.length ≤ MX := by have := szL_len kids; omega
  have ta : ts.getD 0 [] = txtE q0 := by rw [hts, List.getD_eq_getElem?_getD, List.getElem?_map, List.getElem?_eq_getElem hk0, hq0]; rfl
  have tb : ts.getD (ts.length - 1) [] = txtE q1 := by rw [hl, hts, List.getD_eq_getElem?_getD, List.getElem?_map, List.getElem?_eq_getElem (show kids.length - 1 < kids.length by omega), hq1]; rfl
  have HT0 := Aside0.mk (fun (w : World) (hb : Below W.heap.size W w) => ih q0 hm0 w B0 d0 (hG.below hb) (okL_mem hok hm0) (by omega) (Kd.C_below g0 hb) l0)
  have HT1 := Aside0.mk (fun (w : World) (hb : Below W.heap.size W w) => ih q1 hm1 w B1 d1 (hG.below hb) (okL_mem hok hm1) (by omega) (Kd.C_below g1 hb) l1)
  replace X0 := Aside0.mk X0
  replace Y0 := Aside0.mk Y0
  replace X1 := Aside0.mk X1
  replace Y1 := Aside0.mk Y1
  replace X2 := Aside0.mk X2
  replace Y2 := Aside0.mk Y2
  replace X3 := Aside0.mk X3
  replace Y3 := Aside0.mk Y3
  replace X4 := Aside0.mk X4
  replace Y4 := Aside0.mk Y4
  replace X5 := Aside0.mk X5
  replace Y5 := Aside0.mk Y5
  replace X6 := Aside0.mk X6
  replace Y6 := Aside0.mk Y6
  have hts0 : ¬ ts.length = 0 := by omega
  have ht : txtN 9 num nm op ts = [33] ++ txtE q0 := by unfold txtN; rw [if_neg (by decide), if_neg (by decide), if_neg (by decide), if_neg (by decide), if_neg hts0, if_neg (by decide), if_pos rfl, ta]
  rw [ht]
  clear ht
  clear ta tb hts ih hok hsz hC hl hq0 hq1 h0 h1 hm0 hm1 hs0 hs1 hts0 l0 l1 g0 g1
  have z0 : ((kids.length : Int) == 0) = false := beq_eq_false_iff_ne.2 (by omega)
  have z1 : (kids.length == 0) = false := beq_eq_false_iff_ne.2 (by omega)
  have w1 : wrap64 J = J := w64 _ (by omega) (by have := mx_le; omega)
  have p0_ : (0 ≤ J) = True := eq_true (by omega)
  have q0_ : (J < (kids.length : Int)) = True := eq_true (by omega)
  have p2 : ((0 : Int) < (kids.length : Int)) = True := eq_true (by omega)
  have p3 : (0 < kids.length) = True := eq_true hk0
  clear hk0
  obtain ⟨a, ha⟩ : ∃ a, a = txtE q0 := ⟨_, rfl⟩
  obtain ⟨b, hb_⟩ : ∃ b, b = txtE q1 := ⟨_, rfl⟩
  rw [← ha] at HT0 hla
  rw [← hb_] at HT1 hlb
  try rw [← ha]
  try rw [← hb_]
  clear ha hb_
  have HS := Sat.start W
  go_enter Tryd.func15, Tryd.ntmps15
  go_upto_region 1 with ((with_reducible refine gate_dst (N := 1) rfl ?_); go_must (refine ev_box HS rfl (N := 1) rfl (cs := #[.int .i64 9, .int .i64 p0, .int .i64 p1, .int .i64 num, .string (bs nm), .int .i64 op, .slice (some ad) kids.length c]) (t := 51) ?hrun ?_); (case hrun => first | (go_simp; done) | (go_simp; rfl)); clear HS; intro gb w HS)
  have cb := HS.cell 0 rfl
  go_wp2
  refine start_ (n := 16) (S := fun w' => Sat W w' [blk gb 51 #[.int .i64 9, .int .i64 p0, .int .i64 p1, .int .i64 num, .string (bs nm), .int .i64 op, .slice (some ad) kids.length c], old W]) (ds := []) #[false, false, false, false, false, false, false, false, false, false, false, false, false, false, false, false] (by kernel_rfl) rfl rfl HS.drew (fun hHeld => ?_)
  replace HS := HS.drew
  generalize World.drew w = w at HS hHeld ⊢
  refine pure_ (i := 0) (N := some 50) (v := ?_) (a' := ?_) #[true, false, false, false, false, false, false, false, false, false, false, false, false, false, false, false] rfl rfl (by kernel_rfl) (fun _ _ _ h => h) (Or.inl ⟨by rfl, ?_⟩) ?_ ?_
  rotate_left
  · intro w'
    go_simp
    with_reducible rfl
  rotate_left
  · (try simp only [Act.put, List.setIfInBounds_toArray, List.set_cons_zero, List.set_cons_succ, i64_w, i32_w])
    rfl
  refine take_ (i := 1) (N := some 51) (v := ?_) (a' := ?_) #[true, true, false, false, false, false, false, false, false, false, false, false, false, false, false, false] rfl rfl (by kernel_rfl) (fun _ _ _ h => h) (Or.inl ⟨by rfl, ?_⟩) hHeld ?_ ?_
  rotate_left
  · rintro w' hS
    have cb := hS.cell 0 rfl
    have hbw := hS.old 1 rfl
    have x0 := cell_below X0.out hbw
    have x1 := cell_below X1.out hbw
    have x2 := cell_below X2.out hbw
    have x3 := cell_below X3.out hbw
    have x4 := cell_below X4.out hbw
    have x5 := cell_below X5.out hbw
    have x6 := cell_below X6.out hbw
    have y0 := cell_below Y0.out hbw
    have y1 := cell_below Y1.out hbw
    have y2 := cell_below Y2.out hbw
    have y3 := cell_below Y3.out hbw
    have y4 := cell_below Y4.out hbw
    have y5 := cell_below Y5.out hbw
    have y6 := cell_below Y6.out hbw
    clear hbw
    go_simp
    with_reducible rfl
  rotate_left
  · (try simp only [Act.put, List.setIfInBounds_toArray, List.set_cons_zero, List.set_cons_succ, i64_w, i32_w])
    rfl
  refine pure_ (i := 2) (N := some 52) (v := ?_) (a' := ?_) #[true, true, true, false, false, false, false, false, false, false, false, false, false, false, false, false] rfl rfl (by kernel_rfl) (fun _ _ _ h => h) (Or.inl ⟨by rfl, ?_⟩) ?_ ?_
  rotate_left
  · intro w'
    go_simp
    with_reducible rfl
  rotate_left
  · (try simp only [Act.put, List.setIfInBounds_toArray, List.set_cons_zero, List.set_cons_succ, i64_w, i32_w])
    rfl
  refine take_ (i := 3) (N := some 53) (v := ?_) (a' := ?_) #[true, true, true, true, false, false, false, false, false, false, false, false, false, false, false, false] rfl rfl (by kernel_rfl) (fun _ _ _ h => h) (Or.inl ⟨by rfl, ?_⟩) hHeld ?_ ?_
  rotate_left
  · rintro w' hS
    have cb := hS.cell 0 rfl
    have hbw := hS.old 1 rfl
    have x0 := cell_below X0.out hbw
    have x1 := cell_below X1.out hbw
    have x2 := cell_below X2.out hbw
    have x3 := cell_below X3.out hbw
    have x4 := cell_below X4.out hbw
    have x5 := cell_below X5.out hbw
    have x6 := cell_below X6.out hbw
    have y0 := cell_below Y0.out hbw
    have y1 := cell_below Y1.out hbw
    have y2 := cell_below Y2.out hbw
    have y3 := cell_below Y3.out hbw
    have y4 := cell_below Y4.out hbw
    have y5 := cell_below Y5.out hbw
    have y6 := cell_below Y6.out hbw
    clear hbw
    go_simp
    with_reducible rfl
  rotate_left
  · (try simp only [Act.put, List.setIfInBounds_toArray, List.set_cons_zero, List.set_cons_succ, i64_w, i32_w])
    rfl
  refine pure_ (i := 5) (N := some 55) (v := ?_) (a' := ?_) #[true, true, true, true, false, true, false, false, false, false, false, false, false, false, false, false] rfl rfl (by kernel_rfl) (fun _ _ _ h => h) (Or.inl ⟨by rfl, ?_⟩) ?_ ?_
  rotate_left
  · intro w'
    go_simp
    with_reducible rfl
  rotate_left
  · (try simp only [Act.put, List.setIfInBounds_toArray, List.set_cons_zero, List.set_cons_succ, i64_w, i32_w])
    rfl
  refine take_ (i := 6) (N := some 56) (v := ?_) (a' := ?_) #[true, true, true, true, false, true, true, false, false, false, false, false, false, false, false, false] rfl rfl (by kernel_rfl) (fun _ _ _ h => h) (Or.inl ⟨by rfl, ?_⟩) hHeld ?_ ?_
  rotate_left
  · rintro w' hS
    have cb := hS.cell 0 rfl
    have hbw := hS.old 1 rfl
    have x0 := cell_below X0.out hbw
    have x1 := cell_below X1.out hbw
    have x2 := cell_below X2.out hbw
    have x3 := cell_below X3.out hbw
    have x4 := cell_below X4.out hbw
    have x5 := cell_below X5.out hbw
    have x6 := cell_below X6.out hbw
    have y0 := cell_below Y0.out hbw
    have y1 := cell_below Y1.out hbw
    have y2 := cell_below Y2.out hbw
    have y3 := cell_below Y3.out hbw
    have y4 := cell_below Y4.out hbw
    have y5 := cell_below Y5.out hbw
    have y6 := cell_below Y6.out hbw
    clear hbw
    go_simp
    with_reducible rfl
  rotate_left
  · (try simp only [Act.put, List.setIfInBounds_toArray, List.set_cons_zero, List.set_cons_succ, i64_w, i32_w])
    rfl
  refine pure_ (i := 7) (N := some 57) (v := ?_) (a' := ?_) #[true, true, true, true, false, true, true, true, false, false, false, false, false, false, false, false] rfl rfl (by kernel_rfl) (fun _ _ _ h => h) (Or.inl ⟨by rfl, ?_⟩) ?_ ?_
  rotate_left
  · intro w'
    go_simp
    with_reducible rfl
  rotate_left
  · (try simp only [Act.put, List.setIfInBounds_toArray, List.set_cons_zero, List.set_cons_succ, i64_w, i32_w])
    rfl
  refine take_ (i := 8) (N := some 58) (v := ?_) (a' := ?_) #[true, true, true, true, false, true, true, true, true, false, false, false, false, false, false, false] rfl rfl (by kernel_rfl) (fun _ _ _ h => h) (Or.inl ⟨by rfl, ?_⟩) hHeld ?_ ?_
  rotate_left
  · rintro w' hS
    have cb := hS.cell 0 rfl
    have hbw := hS.old 1 rfl
    have x0 := cell_below X0.out hbw
    have x1 := cell_below X1.out hbw
    have x2 := cell_below X2.out hbw
    have x3 := cell_below X3.out hbw
    have x4 := cell_below X4.out hbw
    have x5 := cell_below X5.out hbw
    have x6 := cell_below X6.out hbw
    have y0 := cell_below Y0.out hbw
    have y1 := cell_below Y1.out hbw
    have y2 := cell_below Y2.out hbw
    have y3 := cell_below Y3.out hbw
    have y4 := cell_below Y4.out hbw
    have y5 := cell_below Y5.out hbw
    have y6 := cell_below Y6.out hbw
    clear hbw
    go_simp
    with_reducible rfl
  rotate_left
  · (try simp only [Act.put, List.setIfInBounds_toArray, List.set_cons_zero, List.set_cons_succ, i64_w, i32_w])
    rfl
  refine pure_ (i := 9) (N := some 59) (v := ?_) (a' := ?_) #[true, true, true, true, false, true, true, true, true, true, false, false, false, false, false, false] rfl rfl (by kernel_rfl) (fun _ _ _ h => h) (Or.inl ⟨by rfl, ?_⟩) ?_ ?_
  rotate_left
  · intro w'
    go_simp
    with_reducible rfl
  rotate_left
  · (try simp only [Act.put, List.setIfInBounds_toArray, List.set_cons_zero, List.set_cons_succ, i64_w, i32_w])
    rfl
  refine pure_ (i := 10) (N := some 60) (v := ?_) (a' := ?_) #[true, true, true, true, false, true, true, true, true, true, true, false, false, false, false, false] rfl rfl (by kernel_rfl) (fun _ _ _ h => h) (Or.inl ⟨by rfl, ?_⟩) ?_ ?_
  rotate_left
  · intro w'
    go_simp
    with_reducible rfl
  rotate_left
  · (try simp only [Act.put, List.setIfInBounds_toArray, List.set_cons_zero, List.set_cons_succ, i64_w, i32_w])
    rfl
  refine pure_ (i := 11) (N := some 61) (v := ?_) (a' := ?_) #[true, true, true, true, false, true, true, true, true, true, true, true, false, false, false, false] rfl rfl (by kernel_rfl) (fun _ _ _ h => h) (Or.inl ⟨by rfl, ?_⟩) ?_ ?_
  rotate_left
  · intro w'
    go_simp
    with_reducible rfl
  rotate_left
  · (try simp only [Act.put, List.setIfInBounds_toArray, List.set_cons_zero, List.set_cons_succ, i64_w, i32_w])
    rfl
  refine take_ (i := 12) (N := some 62) (v := ?_) (a' := ?_) #[true, true, true, true, false, true, true, true, true, true, true, true, true, false, false, false] rfl rfl (by kernel_rfl) (fun _ _ _ h => h) (Or.inl ⟨by rfl, ?_⟩) hHeld ?_ ?_
  rotate_left
  · rintro w' hS
    have cb := hS.cell 0 rfl
    have hbw := hS.old 1 rfl
    have x0 := cell_below X0.out hbw
    have x1 := cell_below X1.out hbw
    have x2 := cell_below X2.out hbw
    have x3 := cell_below X3.out hbw
    have x4 := cell_below X4.out hbw
    have x5 := cell_below X5.out hbw
    have x6 := cell_below X6.out hbw
    have y0 := cell_below Y0.out hbw
    have y1 := cell_below Y1.out hbw
    have y2 := cell_below Y2.out hbw
    have y3 := cell_below Y3.out hbw
    have y4 := cell_below Y4.out hbw
    have y5 := cell_below Y5.out hbw
    have y6 := cell_below Y6.out hbw
    clear hbw
    go_simp
    with_reducible rfl
  rotate_left
  · (try simp only [Act.put, List.setIfInBounds_toArray, List.set_cons_zero, List.set_cons_succ, i64_w, i32_w])
    rfl
  refine one_ (i := 4) (N := some 54) #[true, true, true, true, true, true, true, true, true, true, true, true, true, false, false, false] rfl rfl (by kernel_rfl) (by decide) (fun K hK => ?_)
  refine goes_ Tryd.func15 (by kernel_rfl) rfl #[.agg #[.int .i64 q0.f0, .int .i64 q0.f1.f0, .int .i64 q0.f1.f1, .int .i64 q0.f2, .string q0.f3, .int .i64 q0.f4, .slice B0 q0.f5.length d0]] (by rfl) rfl rfl (by (try simp only [List.map_toArray, List.map_cons, List.map_nil]); first | done | rfl) ?_
  refine (HT0.out _ (HS.old 1 rfl)).mono ?_
  rintro e w_ ⟨rfl, hb⟩
  refine ⟨_, rfl, ?_⟩
  replace HS := HS.below hb
  clear hb
  refine hK.out _ _ HS (fun hHeld => ?_)
  clear hK K
  refine norm_ (a' := ?_) ?_ ?_
  rotate_left
  · show Act.put _ _ _ = _
    (try simp only [Act.put, List.setIfInBounds_toArray, List.set_cons_zero, List.set_cons_succ, i64_w, i32_w])
    rfl
  refine one_ (i := 13) (N := some 63) #[true, true, true, true, true, true, true, true, true, true, true, true, true, true, false, false] rfl rfl (by kernel_rfl) (by decide) (fun K hK => ?_)
  refine goes_ Tryd.func15 (by kernel_rfl) rfl #[.agg #[.int .i64 q1.f0, .int .i64 q1.f1.f0, .int .i64 q1.f1.f1, .int .i64 q1.f2, .string q1.f3, .int .i64 q1.f4, .slice B1 q1.f5.length d1]] (by rfl) rfl rfl (by (try simp only [List.map_toArray, List.map_cons, List.map_nil]); first | done | rfl) ?_
  refine (HT1.out _ (HS.old 1 rfl)).mono ?_
  rintro e w_ ⟨rfl, hb⟩
  refine ⟨_, rfl, ?_⟩
  replace HS := HS.below hb
  clear hb
  refine hK.out _ _ HS (fun hHeld => ?_)
  clear hK K
  refine norm_ (a' := ?_) ?_ ?_
  rotate_left
  · show Act.put _ _ _ = _
    (try simp only [Act.put, List.setIfInBounds_toArray, List.set_cons_zero, List.set_cons_succ, i64_w, i32_w])
    rfl
  refine pure_ (i := 14) (N := some 6) (v := ?_) (a' := ?_) #[true, true, true, true, true, true, true, true, true, true, true, true, true, true, true, false] rfl rfl (by kernel_rfl) (fun _ _ _ h => h) (Or.inl ⟨by rfl, ?_⟩) ?_ ?_
  rotate_left
  · intro w'
    go_simp
    with_reducible rfl
  rotate_left
  · (try simp only [Act.put, List.setIfInBounds_toArray, List.set_cons_zero, List.set_cons_succ, i64_w, i32_w])
    rfl
  refine pure_ (i := 15) (N := some 7) (v := ?_) (a' := ?_) #[true, true, true, true, true, true, true, true, true, true, true, true, true, true, true, true] rfl rfl (by kernel_rfl) (fun _ _ _ h => h) (Or.inl ⟨by rfl, ?_⟩) ?_ ?_
  rotate_left
  · intro w'
    go_simp
    with_reducible rfl
  rotate_left
  · (try simp only [Act.put, List.setIfInBounds_toArray, List.set_cons_zero, List.set_cons_succ, i64_w, i32_w])
    rfl
  refine done_ (by kernel_rfl) ?_
  clear hHeld
  have cb := HS.cell 0 rfl
  go_wp2_with (first | ((with_reducible refine gate_bin (b := .add) (t := 9) (t' := 9) rfl ?_); go_must (refine ev_cat Tryd.underlying9 rfl rfl rfl rfl rfl (by simp only [List.length_append, List.length_cons, List.length_nil]; have := mx_le; omega) ?_)))
  go_ret
  exact ⟨ret_bs (by simp), HS.old 1 rfl⟩
set_option maxRecDepth 100000 in
set_option maxHeartbeats 2000000 in
theorem text_and (W : World) (hG : GL W) (hcap : kids.length ≤ c) (hC : Kd.C k51 W A kids.length kids) (hk0 : 0 < kids.length) (hts : ts = kids.map txtE) (ih : ∀ e ∈ kids, TextC e) (hok : okL kids) (hsz : nm.length + szL kids ≤ MX) :
    Calls Tryd.prog 15 #[.agg #[.int .i64 7, .int .i64 p0, .int .i64 p1, .int .i64 num, .string (bs nm), .int .i64 op, .slice A kids.length c]] W fun r w' => r = .returned (.string (bs (txtN 7 num nm op ts))) ∧ Below W.heap.size W w' := by
  have hl : ts.length = kids.length := by rw [hts, List.length_map]
  obtain ⟨ad, B0, d0, rfl, X0, X1, X2, X3, X4, X5, X6, l0, g0⟩ := at_T51 hC 0 (by decide) (by omega)
  obtain ⟨J, hJ⟩ : ∃ J : Int, (kids.length : Int) - 1 = J := ⟨_, rfl⟩
  obtain ⟨_, B1, d1, e1, Y0, Y1, Y2, Y3, Y4, Y5, Y6, l1, g1⟩ := at_T51 hC J (by omega) (by omega)
  cases e1
  have hq0 : rd_T51 kids 0 = kids[0] := rdE (i := 0) hk0
  have hq1 : rd_T51 kids J = kids[kids.length - 1] := by
    have h := rdE (kids := kids) (i := kids.length - 1) (by omega)
    rw [show ((kids.length - 1 : Nat) : Int) = J by omega] at h
    exact h
  obtain ⟨q0, h0⟩ : ∃ q, q = rd_T51 kids 0 := ⟨_, rfl⟩
  obtain ⟨q1, h1⟩ : ∃ q, q = rd_T51 kids J := ⟨_, rfl⟩
  rw [← h0] at X0 X1 X2 X3 X4 X5 X6 l0 g0 hq0
  rw [← h1] at Y0 Y1 Y2 Y3 Y4 Y5 Y6 l1 g1 hq1
  change W.cell? ad = _ at X0
  change W.cell? ⟨ad.block, ad.off + 1, none⟩ = _ at X1
  change W.cell? ⟨ad.block, ad.off + 2, none⟩ = _ at X2
  change W.cell? ⟨ad.block, ad.off + 3, none⟩ = _ at X3
  change W.cell? ⟨ad.block, ad.off + 4, none⟩ = _ at X4
  change W.cell? ⟨ad.block, ad.off + 5, none⟩ = _ at X5
  change W.cell? ⟨ad.block, ad.off + 6, none⟩ = _ at X6
  have hm0 : q0 ∈ kids := by rw [hq0]; exact List.getElem_mem _
  have hm1 : q1 ∈ kids := by rw [hq1]; exact List.getElem_mem _
  have hs0 := szL_mem hm0
  have hs1 := szL_mem hm1
  have hla : (txtE q0).length ≤ MX := by have := txtE_len q0 (okL_mem hok hm0); omega
  have hlb : (txtE q1).length ≤ MX := by have := txtE_len q1 (okL_mem hok hm1); omega
  have hnm : nm.length ≤ MX := by omega
  have hkl : kids.length ≤ MX := by have := szL_len kids; omega
  have ta : ts.getD 0 [] = txtE q0 := by rw [hts, List.getD_eq_getElem?_getD, List.getElem?_map, List.getElem?_eq_getElem hk0, hq0]; rfl
  have tb : ts.getD (ts.length - 1) [] = txtE q1 := by rw [hl, hts, List.getD_eq_getElem?_getD, List.getElem?_map, List.getElem?_eq_getElem (show kids.length - 1 < kids.length by omega), hq1]; rfl
  have HT0 := Aside0.mk (fun (w : World) (hb : Below W.heap.size W w) => ih q0 hm0 w B0 d0 (hG.below hb) (okL_mem hok hm0) (by omega) (Kd.C_below g0 hb) l0)
  have HT1 := Aside0.mk (fun (w : World) (hb : Below W.heap.size W w) => ih q1 hm1 w B1 d1 (hG.below hb) (okL_mem hok hm1) (by omega) (Kd.C_below g1 hb) l1)
  replace X0 := Aside0.mk X0
  replace Y0 := Aside0.mk Y0
  replace X1 := Aside0.mk X1
  replace Y1 := Aside0.mk Y1
  replace X2 := Aside0.mk X2
  replace Y2 := Aside0.mk Y2
  replace X3 := Aside0.mk X3
  replace Y3 := Aside0.mk Y3
  replace X4 := Aside0.mk X4
  replace Y4 := Aside0.mk Y4
  replace X5 := Aside0.mk X5
  replace Y5 := Aside0.mk Y5
  replace X6 := Aside0.mk X6
  replace Y6 := Aside0.mk Y6
  have hts0 : ¬ ts.length = 0 := by omega
  have ht : txtN 7 num nm op ts = [40] ++ txtE q0 ++ [32, 38, 38, 32] ++ txtE q1 ++ [41] := by unfold txtN; rw [if_neg (by decide), if_neg (by decide), if_neg (by decide), if_neg (by decide), if_neg hts0, if_neg (by decide), if_neg (by decide), if_pos rfl, ta, tb]
  rw [ht]
  clear ht
  clear ta tb hts ih hok hsz hC hl hq0 hq1 h0 h1 hm0 hm1 hs0 hs1 hts0 l0 l1 g0 g1
  have z0 : ((kids.length : Int) == 0) = false := beq_eq_false_iff_ne.2 (by omega)
  have z1 : (kids.length == 0) = false := beq_eq_false_iff_ne.2 (by omega)
  have w1 : wrap64 J = J := w64 _ (by omega) (by have := mx_le; omega)
  have p0_ : (0 ≤ J) = True := eq_true (by omega)
  have q0_ : (J < (kids.length : Int)) = True := eq_true (by omega)
  have p2 : ((0 : Int) < (kids.length : Int)) = True := eq_true (by omega)
  have p3 : (0 < kids.length) = True := eq_true hk0
  clear hk0
  obtain ⟨a, ha⟩ : ∃ a, a = txtE q0 := ⟨_, rfl⟩
  obtain ⟨b, hb_⟩ : ∃ b, b = txtE q1 := ⟨_, rfl⟩
  rw [← ha] at HT0 hla
  rw [← hb_] at HT1 hlb
  try rw [← ha]
  try rw [← hb_]
  clear ha hb_
  have HS := Sat.start W
  go_enter Tryd.func15, Tryd.ntmps15
  go_upto_region 1 with ((with_reducible refine gate_dst (N := 1) rfl ?_); go_must (refine ev_box HS rfl (N := 1) rfl (cs := #[.int .i64 7, .int .i64 p0, .int .i64 p1, .int .i64 num, .string (bs nm), .int .i64 op, .slice (some ad) kids.length c]) (t := 51) ?hrun ?_); (case hrun => first | (go_simp; done) | (go_simp; rfl)); clear HS; intro gb w HS)
  have cb := HS.cell 0 rfl
  go_wp2
  refine start_ (n := 16) (S := fun w' => Sat W w' [blk gb 51 #[.int .i64 7, .int .i64 p0, .int .i64 p1, .int .i64 num, .string (bs nm), .int .i64 op, .slice (some ad) kids.length c], old W]) (ds := []) #[false, false, false, false, false, false, false, false, false, false, false, false, false, false, false, false] (by kernel_rfl) rfl rfl HS.drew (fun hHeld => ?_)
  replace HS := HS.drew
  generalize World.drew w = w at HS hHeld ⊢
  refine pure_ (i := 0) (N := some 50) (v := ?_) (a' := ?_) #[true, false, false, false, false, false, false, false, false, false, false, false, false, false, false, false] rfl rfl (by kernel_rfl) (fun _ _ _ h => h) (Or.inl ⟨by rfl, ?_⟩) ?_ ?_
  rotate_left
  · intro w'
    go_simp
    with_reducible rfl
  rotate_left
  · (try simp only [Act.put, List.setIfInBounds_toArray, List.set_cons_zero, List.set_cons_succ, i64_w, i32_w])
    rfl
  refine take_ (i := 1) (N := some 51) (v := ?_) (a' := ?_) #[true, true, false, false, false, false, false, false, false, false, false, false, false, false, false, false] rfl rfl (by kernel_rfl) (fun _ _ _ h => h) (Or.inl ⟨by rfl, ?_⟩) hHeld ?_ ?_
  rotate_left
  · rintro w' hS
    have cb := hS.cell 0 rfl
    have hbw := hS.old 1 rfl
    have x0 := cell_below X0.out hbw
    have x1 := cell_below X1.out hbw
    have x2 := cell_below X2.out hbw
    have x3 := cell_below X3.out hbw
    have x4 := cell_below X4.out hbw
    have x5 := cell_below X5.out hbw
    have x6 := cell_below X6.out hbw
    have y0 := cell_below Y0.out hbw
    have y1 := cell_below Y1.out hbw
    have y2 := cell_below Y2.out hbw
    have y3 := cell_below Y3.out hbw
    have y4 := cell_below Y4.out hbw
    have y5 := cell_below Y5.out hbw
    have y6 := cell_below Y6.out hbw
    clear hbw
    go_simp
    with_reducible rfl
  rotate_left
  · (try simp only [Act.put, List.setIfInBounds_toArray, List.set_cons_zero, List.set_cons_succ, i64_w, i32_w])
    rfl
  refine pure_ (i := 2) (N := some 52) (v := ?_) (a' := ?_) #[true, true, true, false, false, false, false, false, false, false, false, false, false, false, false, false] rfl rfl (by kernel_rfl) (fun _ _ _ h => h) (Or.inl ⟨by rfl, ?_⟩) ?_ ?_
  rotate_left
  · intro w'
    go_simp
    with_reducible rfl
  rotate_left
  · (try simp only [Act.put, List.setIfInBounds_toArray, List.set_cons_zero, List.set_cons_succ, i64_w, i32_w])
    rfl
  refine take_ (i := 3) (N := some 53) (v := ?_) (a' := ?_) #[true, true, true, true, false, false, false, false, false, false, false, false, false, false, false, false] rfl rfl (by kernel_rfl) (fun _ _ _ h => h) (Or.inl ⟨by rfl, ?_⟩) hHeld ?_ ?_
  rotate_left
  · rintro w' hS
    have cb := hS.cell 0 rfl
    have hbw := hS.old 1 rfl
    have x0 := cell_below X0.out hbw
    have x1 := cell_below X1.out hbw
    have x2 := cell_below X2.out hbw
    have x3 := cell_below X3.out hbw
    have x4 := cell_below X4.out hbw
    have x5 := cell_below X5.out hbw
    have x6 := cell_below X6.out hbw
    have y0 := cell_below Y0.out hbw
    have y1 := cell_below Y1.out hbw
    have y2 := cell_below Y2.out hbw
    have y3 := cell_below Y3.out hbw
    have y4 := cell_below Y4.out hbw
    have y5 := cell_below Y5.out hbw
    have y6 := cell_below Y6.out hbw
    clear hbw
    go_simp
    with_reducible rfl
  rotate_left
  · (try simp only [Act.put, List.setIfInBounds_toArray, List.set_cons_zero, List.set_cons_succ, i64_w, i32_w])
    rfl
  refine pure_ (i := 5) (N := some 55) (v := ?_) (a' := ?_) #[true, true, true, true, false, true, false, false, false, false, false, false, false, false, false, false] rfl rfl (by kernel_rfl) (fun _ _ _ h => h) (Or.inl ⟨by rfl, ?_⟩) ?_ ?_
  rotate_left
  · intro w'
    go_simp
    with_reducible rfl
  rotate_left
  · (try simp only [Act.put, List.setIfInBounds_toArray, List.set_cons_zero, List.set_cons_succ, i64_w, i32_w])
    rfl
  refine take_ (i := 6) (N := some 56) (v := ?_) (a' := ?_) #[true, true, true, true, false, true, true, false, false, false, false, false, false, false, false, false] rfl rfl (by kernel_rfl) (fun _ _ _ h => h) (Or.inl ⟨by rfl, ?_⟩) hHeld ?_ ?_
  rotate_left
  · rintro w' hS
    have cb := hS.cell 0 rfl
    have hbw := hS.old 1 rfl
    have x0 := cell_below X0.out hbw
    have x1 := cell_below X1.out hbw
    have x2 := cell_below X2.out hbw
    have x3 := cell_below X3.out hbw
    have x4 := cell_below X4.out hbw
    have x5 := cell_below X5.out hbw
    have x6 := cell_below X6.out hbw
    have y0 := cell_below Y0.out hbw
    have y1 := cell_below Y1.out hbw
    have y2 := cell_below Y2.out hbw
    have y3 := cell_below Y3.out hbw
    have y4 := cell_below Y4.out hbw
    have y5 := cell_below Y5.out hbw
    have y6 := cell_below Y6.out hbw
    clear hbw
    go_simp
    with_reducible rfl
  rotate_left
  · (try simp only [Act.put, List.setIfInBounds_toArray, List.set_cons_zero, List.set_cons_succ, i64_w, i32_w])
    rfl
  refine pure_ (i := 7) (N := some 57) (v := ?_) (a' := ?_) #[true, true, true, true, false, true, true, true, false, false, false, false, false, false, false, false] rfl rfl (by kernel_rfl) (fun _ _ _ h => h) (Or.inl ⟨by rfl, ?_⟩) ?_ ?_
  rotate_left
  · intro w'
    go_simp
    with_reducible rfl
  rotate_left
  · (try simp only [Act.put, List.setIfInBounds_toArray, List.set_cons_zero, List.set_cons_succ, i64_w, i32_w])
    rfl
  refine take_ (i := 8) (N := some 58) (v := ?_) (a' := ?_) #[true, true, true, true, false, true, true, true, true, false, false, false, false, false, false, false] rfl rfl (by kernel_rfl) (fun _ _ _ h => h) (Or.inl ⟨by rfl, ?_⟩) hHeld ?_ ?_
  rotate_left
  · rintro w' hS
    have cb := hS.cell 0 rfl
    have hbw := hS.old 1 rfl
    have x0 := cell_below X0.out hbw
    have x1 := cell_below X1.out hbw
    have x2 := cell_below X2.out hbw
    have x3 := cell_below X3.out hbw
    have x4 := cell_below X4.out hbw
    have x5 := cell_below X5.out hbw
    have x6 := cell_below X6.out hbw
    have y0 := cell_below Y0.out hbw
    have y1 := cell_below Y1.out hbw
    have y2 := cell_below Y2.out hbw
    have y3 := cell_below Y3.out hbw
    have y4 := cell_below Y4.out hbw
    have y5 := cell_below Y5.out hbw
    have y6 := cell_below Y6.out hbw
    clear hbw
    go_simp
    with_reducible rfl
  rotate_left
  · (try simp only [Act.put, List.setIfInBounds_toArray, List.set_cons_zero, List.set_cons_succ, i64_w, i32_w])
    rfl
  refine pure_ (i := 9) (N := some 59) (v := ?_) (a' := ?_) #[true, true, true, true, false, true, true, true, true, true, false, false, false, false, false, false] rfl rfl (by kernel_rfl) (fun _ _ _ h => h) (Or.inl ⟨by rfl, ?_⟩) ?_ ?_
  rotate_left
  · intro w'
    go_simp
    with_reducible rfl
  rotate_left
  · (try simp only [Act.put, List.setIfInBounds_toArray, List.set_cons_zero, List.set_cons_succ, i64_w, i32_w])
    rfl
  refine pure_ (i := 10) (N := some 60) (v := ?_) (a' := ?_) #[true, true, true, true, false, true, true, true, true, true, true, false, false, false, false, false] rfl rfl (by kernel_rfl) (fun _ _ _ h => h) (Or.inl ⟨by rfl, ?_⟩) ?_ ?_
  rotate_left
  · intro w'
    go_simp
    with_reducible rfl
  rotate_left
  · (try simp only [Act.put, List.setIfInBounds_toArray, List.set_cons_zero, List.set_cons_succ, i64_w, i32_w])
    rfl
  refine pure_ (i := 11) (N := some 61) (v := ?_) (a' := ?_) #[true, true, true, true, false, true, true, true, true, true, true, true, false, false, false, false] rfl rfl (by kernel_rfl) (fun _ _ _ h => h) (Or.inl ⟨by rfl, ?_⟩) ?_ ?_
  rotate_left
  · intro w'
    go_simp
    with_reducible rfl
  rotate_left
  · (try simp only [Act.put, List.setIfInBounds_toArray, List.set_cons_zero, List.set_cons_succ, i64_w, i32_w])
    rfl
  refine take_ (i := 12) (N := some 62) (v := ?_) (a' := ?_) #[true, true, true, true, false, true, true, true, true, true, true, true, true, false, false, false] rfl rfl (by kernel_rfl) (fun _ _ _ h => h) (Or.inl ⟨by rfl, ?_⟩) hHeld ?_ ?_
  rotate_left
  · rintro w' hS
    have cb := hS.cell 0 rfl
    have hbw := hS.old 1 rfl
    have x0 := cell_below X0.out hbw
    have x1 := cell_below X1.out hbw
    have x2 := cell_below X2.out hbw
    have x3 := cell_below X3.out hbw
    have x4 := cell_below X4.out hbw
    have x5 := cell_below X5.out hbw
    have x6 := cell_below X6.out hbw
    have y0 := cell_below Y0.out hbw
    have y1 := cell_below Y1.out hbw
    have y2 := cell_below Y2.out hbw
    have y3 := cell_below Y3.out hbw
    have y4 := cell_below Y4.out hbw
    have y5 := cell_below Y5.out hbw
    have y6 := cell_below Y6.out hbw
    clear hbw
    go_simp
    with_reducible rfl
  rotate_left
  · (try simp only [Act.put, List.setIfInBounds_toArray, List.set_cons_zero, List.set_cons_succ, i64_w, i32_w])
    rfl
  refine one_ (i := 4) (N := some 54) #[true, true, true, true, true, true, true, true, true, true, true, true, true, false, false, false] rfl rfl (by kernel_rfl) (by decide) (fun K hK => ?_)
  refine goes_ Tryd.func15 (by kernel_rfl) rfl #[.agg #[.int .i64 q0.f0, .int .i64 q0.f1.f0, .int .i64 q0.f1.f1, .int .i64 q0.f2, .string q0.f3, .int .i64 q0.f4, .slice B0 q0.f5.length d0]] (by rfl) rfl rfl (by (try simp only [List.map_toArray, List.map_cons, List.map_nil]); first | done | rfl) ?_
  refine (HT0.out _ (HS.old 1 rfl)).mono ?_
  rintro e w_ ⟨rfl, hb⟩
  refine ⟨_, rfl, ?_⟩
  replace HS := HS.below hb
  clear hb
  refine hK.out _ _ HS (fun hHeld => ?_)
  clear hK K
  refine norm_ (a' := ?_) ?_ ?_
  rotate_left
  · show Act.put _ _ _ = _
    (try simp only [Act.put, List.setIfInBounds_toArray, List.set_cons_zero, List.set_cons_succ, i64_w, i32_w])
    rfl
  refine one_ (i := 13) (N := some 63) #[true, true, true, true, true, true, true, true, true, true, true, true, true, true, false, false] rfl rfl (by kernel_rfl) (by decide) (fun K hK => ?_)
  refine goes_ Tryd.func15 (by kernel_rfl) rfl #[.agg #[.int .i64 q1.f0, .int .i64 q1.f1.f0, .int .i64 q1.f1.f1, .int .i64 q1.f2, .string q1.f3, .int .i64 q1.f4, .slice B1 q1.f5.length d1]] (by rfl) rfl rfl (by (try simp only [List.map_toArray, List.map_cons, List.map_nil]); first | done | rfl) ?_
  refine (HT1.out _ (HS.old 1 rfl)).mono ?_
  rintro e w_ ⟨rfl, hb⟩
  refine ⟨_, rfl, ?_⟩
  replace HS := HS.below hb
  clear hb
  refine hK.out _ _ HS (fun hHeld => ?_)
  clear hK K
  refine norm_ (a' := ?_) ?_ ?_
  rotate_left
  · show Act.put _ _ _ = _
    (try simp only [Act.put, List.setIfInBounds_toArray, List.set_cons_zero, List.set_cons_succ, i64_w, i32_w])
    rfl
  refine pure_ (i := 14) (N := some 6) (v := ?_) (a' := ?_) #[true, true, true, true, true, true, true, true, true, true, true, true, true, true, true, false] rfl rfl (by kernel_rfl) (fun _ _ _ h => h) (Or.inl ⟨by rfl, ?_⟩) ?_ ?_
  rotate_left
  · intro w'
    go_simp
    with_reducible rfl
  rotate_left
  · (try simp only [Act.put, List.setIfInBounds_toArray, List.set_cons_zero, List.set_cons_succ, i64_w, i32_w])
    rfl
  refine pure_ (i := 15) (N := some 7) (v := ?_) (a' := ?_) #[true, true, true, true, true, true, true, true, true, true, true, true, true, true, true, true] rfl rfl (by kernel_rfl) (fun _ _ _ h => h) (Or.inl ⟨by rfl, ?_⟩) ?_ ?_
  rotate_left
  · intro w'
    go_simp
    with_reducible rfl
  rotate_left
  · (try simp only [Act.put, List.setIfInBounds_toArray, List.set_cons_zero, List.set_cons_succ, i64_w, i32_w])
    rfl
  refine done_ (by kernel_rfl) ?_
  clear hHeld
  have cb := HS.cell 0 rfl
  go_wp2_with (first | ((with_reducible refine gate_bin (b := .add) (t := 9) (t' := 9) rfl ?_); go_must (refine ev_cat Tryd.underlying9 rfl rfl rfl rfl rfl (by simp only [List.length_append, List.length_cons, List.length_nil]; have := mx_le; omega) ?_)))
  go_ret
  exact ⟨ret_bs (by simp), HS.old 1 rfl⟩
set_option maxRecDepth 100000 in
set_option maxHeartbeats 2000000 in
theorem text_or (W : World) (hG : GL W) (hcap : kids.length ≤ c) (hC : Kd.C k51 W A kids.length kids) (hk0 : 0 < kids.length) (hts : ts = kids.map txtE) (ih : ∀ e ∈ kids, TextC e) (hok : okL kids) (hsz : nm.length + szL kids ≤ MX) :
    Calls Tryd.prog 15 #[.agg #[.int .i64 8, .int .i64 p0, .int .i64 p1, .int .i64 num, .string (bs nm), .int .i64 op, .slice A kids.length c]] W fun r w' => r = .returned (.string (bs (txtN 8 num nm op ts))) ∧ Below W.heap.size W w' := by
  have hl : ts.length = kids.length := by rw [hts, List.length_map]
  obtain ⟨ad, B0, d0, rfl, X0, X1, X2, X3, X4, X5, X6, l0, g0⟩ := at_T51 hC 0 (by decide) (by omega)
  obtain ⟨J, hJ⟩ : ∃ J : Int, (kids.length : Int) - 1 = J := ⟨_, rfl⟩
  obtain ⟨_, B1, d1, e1, Y0, Y1, Y2, Y3, Y4, Y5, Y6, l1, g1⟩ := at_T51 hC J (by omega) (by omega)
  cases e1
  have hq0 : rd_T51 kids 0 = kids[0] := rdE (i := 0) hk0
  have hq1 : rd_T51 kids J = kids[kids.length - 1] := by
    have h := rdE (kids := kids) (i := kids.length - 1) (by omega)
    rw [show ((kids.length - 1 : Nat) : Int) = J by omega] at h
    exact h
  obtain ⟨q0, h0⟩ : ∃ q, q = rd_T51 kids 0 := ⟨_, rfl⟩
  obtain ⟨q1, h1⟩ : ∃ q, q = rd_T51 kids J := ⟨_, rfl⟩
  rw [← h0] at X0 X1 X2 X3 X4 X5 X6 l0 g0 hq0
  rw [← h1] at Y0 Y1 Y2 Y3 Y4 Y5 Y6 l1 g1 hq1
  change W.cell? ad = _ at X0
  change W.cell? ⟨ad.block, ad.off + 1, none⟩ = _ at X1
  change W.cell? ⟨ad.block, ad.off + 2, none⟩ = _ at X2
  change W.cell? ⟨ad.block, ad.off + 3, none⟩ = _ at X3
  change W.cell? ⟨ad.block, ad.off + 4, none⟩ = _ at X4
  change W.cell? ⟨ad.block, ad.off + 5, none⟩ = _ at X5
  change W.cell? ⟨ad.block, ad.off + 6, none⟩ = _ at X6
  have hm0 : q0 ∈ kids := by rw [hq0]; exact List.getElem_mem _
  have hm1 : q1 ∈ kids := by rw [hq1]; exact List.getElem_mem _
  have hs0 := szL_mem hm0
  have hs1 := szL_mem hm1
  have hla : (txtE q0).length ≤ MX := by have := txtE_len q0 (okL_mem hok hm0); omega
  have hlb : (txtE q1).length ≤ MX := by have := txtE_len q1 (okL_mem hok hm1); omega
  have hnm : nm.length ≤ MX := by omega
  have hkl : kids.length ≤ MX := by have := szL_len kids; omega
  have ta : ts.getD 0 [] = txtE q0 := by rw [hts, List.getD_eq_getElem?_getD, List.getElem?_map, List.getElem?_eq_getElem hk0, hq0]; rfl
  have tb : ts.getD (ts.length - 1) [] = txtE q1 := by rw [hl, hts, List.getD_eq_getElem?_getD, List.getElem?_map, List.getElem?_eq_getElem (show kids.length - 1 < kids.length by omega), hq1]; rfl
  have HT0 := Aside0.mk (fun (w : World) (hb : Below W.heap.size W w) => ih q0 hm0 w B0 d0 (hG.below hb) (okL_mem hok hm0) (by omega) (Kd.C_below g0 hb) l0)
  have HT1 := Aside0.mk (fun (w : World) (hb : Below W.heap.size W w) => ih q1 hm1 w B1 d1 (hG.below hb) (okL_mem hok hm1) (by omega) (Kd.C_below g1 hb) l1)
  replace X0 := Aside0.mk X0
  replace Y0 := Aside0.mk Y0
  replace X1 := Aside0.mk X1
  replace Y1 := Aside0.mk Y1
  replace X2 := Aside0.mk X2
  replace Y2 := Aside0.mk Y2
  replace X3 := Aside0.mk X3
  replace Y3 := Aside0.mk Y3
  replace X4 := Aside0.mk X4
  replace Y4 := Aside0.mk Y4
  replace X5 := Aside0.mk X5
  replace Y5 := Aside0.mk Y5
  replace X6 := Aside0.mk X6
  replace Y6 := Aside0.mk Y6
  have hts0 : ¬ ts.length = 0 := by omega
  have ht : txtN 8 num nm op ts = [40] ++ txtE q0 ++ [32, 124, 124, 32] ++ txtE q1 ++ [41] := by unfold txtN; rw [if_neg (by decide), if_neg (by decide), if_neg (by decide), if_neg (by decide), if_neg hts0, if_neg (by decide), if_neg (by decide), if_neg (by decide), if_pos rfl, ta, tb]
  rw [ht]
  clear ht
  clear ta tb hts ih hok hsz hC hl hq0 hq1 h0 h1 hm0 hm1 hs0 hs1 hts0 l0 l1 g0 g1
  have z0 : ((kids.length : Int) == 0) = false := beq_eq_false_iff_ne.2 (by omega)
  have z1 : (kids.length == 0) = false := beq_eq_false_iff_ne.2 (by omega)
  have w1 : wrap64 J = J := w64 _ (by omega) (by have := mx_le; omega)
  have p0_ : (0 ≤ J) = True := eq_true (by omega)
  have q0_ : (J < (kids.length : Int)) = True := eq_true (by omega)
  have p2 : ((0 : Int) < (kids.length : Int)) = True := eq_true (by omega)
  have p3 : (0 < kids.length) = True := eq_true hk0
  clear hk0
  obtain ⟨a, ha⟩ : ∃ a, a = txtE q0 := ⟨_, rfl⟩
  obtain ⟨b, hb_⟩ : ∃ b, b = txtE q1 := ⟨_, rfl⟩
  rw [← ha] at HT0 hla
  rw [← hb_] at HT1 hlb
  try rw [← ha]
  try rw [← hb_]
  clear ha hb_
  have HS := Sat.start W
  go_enter Tryd.func15, Tryd.ntmps15
  go_upto_region 1 with ((with_reducible refine gate_dst (N := 1) rfl ?_); go_must (refine ev_box HS rfl (N := 1) rfl (cs := #[.int .i64 8, .int .i64 p0, .int .i64 p1, .int .i64 num, .string (bs nm), .int .i64 op, .slice (some ad) kids.length c]) (t := 51) ?hrun ?_); (case hrun => first | (go_simp; done) | (go_simp; rfl)); clear HS; intro gb w HS)
  have cb := HS.cell 0 rfl
  go_wp2
  refine start_ (n := 16) (S := fun w' => Sat W w' [blk gb 51 #[.int .i64 8, .int .i64 p0, .int .i64 p1, .int .i64 num, .string (bs nm), .int .i64 op, .slice (some ad) kids.length c], old W]) (ds := []) #[false, false, false, false, false, false, false, false, false, false, false, false, false, false, false, false] (by kernel_rfl) rfl rfl HS.drew (fun hHeld => ?_)
  replace HS := HS.drew
  generalize World.drew w = w at HS hHeld ⊢
  refine pure_ (i := 0) (N := some 50) (v := ?_) (a' := ?_) #[true, false, false, false, false, false, false, false, false, false, false, false, false, false, false, false] rfl rfl (by kernel_rfl) (fun _ _ _ h => h) (Or.inl ⟨by rfl, ?_⟩) ?_ ?_
  rotate_left
  · intro w'
    go_simp
    with_reducible rfl
  rotate_left
  · (try simp only [Act.put, List.setIfInBounds_toArray, List.set_cons_zero, List.set_cons_succ, i64_w, i32_w])
    rfl
  refine take_ (i := 1) (N := some 51) (v := ?_) (a' := ?_) #[true, true, false, false, false, false, false, false, false, false, false, false, false, false, false, false] rfl rfl (by kernel_rfl) (fun _ _ _ h => h) (Or.inl ⟨by rfl, ?_⟩) hHeld ?_ ?_
  rotate_left
  · rintro w' hS
    have cb := hS.cell 0 rfl
    have hbw := hS.old 1 rfl
    have x0 := cell_below X0.out hbw
    have x1 := cell_below X1.out hbw
    have x2 := cell_below X2.out hbw
    have x3 := cell_below X3.out hbw
    have x4 := cell_below X4.out hbw
    have x5 := cell_below X5.out hbw
    have x6 := cell_below X6.out hbw
    have y0 := cell_below Y0.out hbw
    have y1 := cell_below Y1.out hbw
    have y2 := cell_below Y2.out hbw
    have y3 := cell_below Y3.out hbw
    have y4 := cell_below Y4.out hbw
    have y5 := cell_below Y5.out hbw
    have y6 := cell_below Y6.out hbw
    clear hbw
    go_simp
    with_reducible rfl
  rotate_left
  · (try simp only [Act.put, List.setIfInBounds_toArray, List.set_cons_zero, List.set_cons_succ, i64_w, i32_w])
    rfl
  refine pure_ (i := 2) (N := some 52) (v := ?_) (a' := ?_) #[true, true, true, false, false, false, false, false, false, false, false, false, false, false, false, false] rfl rfl (by kernel_rfl) (fun _ _ _ h => h) (Or.inl ⟨by rfl, ?_⟩) ?_ ?_
  rotate_left
  · intro w'
    go_simp
    with_reducible rfl
  rotate_left
  · (try simp only [Act.put, List.setIfInBounds_toArray, List.set_cons_zero, List.set_cons_succ, i64_w, i32_w])
    rfl
  refine take_ (i := 3) (N := some 53) (v := ?_) (a' := ?_) #[true, true, true, true, false, false, false, false, false, false, false, false, false, false, false, false] rfl rfl (by kernel_rfl) (fun _ _ _ h => h) (Or.inl ⟨by rfl, ?_⟩) hHeld ?_ ?_
  rotate_left
  · rintro w' hS
    have cb := hS.cell 0 rfl
    have hbw := hS.old 1 rfl
    have x0 := cell_below X0.out hbw
    have x1 := cell_below X1.out hbw
    have x2 := cell_below X2.out hbw
    have x3 := cell_below X3.out hbw
    have x4 := cell_below X4.out hbw
    have x5 := cell_below X5.out hbw
    have x6 := cell_below X6.out hbw
    have y0 := cell_below Y0.out hbw
    have y1 := cell_below Y1.out hbw
    have y2 := cell_below Y2.out hbw
    have y3 := cell_below Y3.out hbw
    have y4 := cell_below Y4.out hbw
    have y5 := cell_below Y5.out hbw
    have y6 := cell_below Y6.out hbw
    clear hbw
    go_simp
    with_reducible rfl
  rotate_left
  · (try simp only [Act.put, List.setIfInBounds_toArray, List.set_cons_zero, List.set_cons_succ, i64_w, i32_w])
    rfl
  refine pure_ (i := 5) (N := some 55) (v := ?_) (a' := ?_) #[true, true, true, true, false, true, false, false, false, false, false, false, false, false, false, false] rfl rfl (by kernel_rfl) (fun _ _ _ h => h) (Or.inl ⟨by rfl, ?_⟩) ?_ ?_
  rotate_left
  · intro w'
    go_simp
    with_reducible rfl
  rotate_left
  · (try simp only [Act.put, List.setIfInBounds_toArray, List.set_cons_zero, List.set_cons_succ, i64_w, i32_w])
    rfl
  refine take_ (i := 6) (N := some 56) (v := ?_) (a' := ?_) #[true, true, true, true, false, true, true, false, false, false, false, false, false, false, false, false] rfl rfl (by kernel_rfl) (fun _ _ _ h => h) (Or.inl ⟨by rfl, ?_⟩) hHeld ?_ ?_
  rotate_left
  · rintro w' hS
    have cb := hS.cell 0 rfl
    have hbw := hS.old 1 rfl
    have x0 := cell_below X0.out hbw
    have x1 := cell_below X1.out hbw
    have x2 := cell_below X2.out hbw
    have x3 := cell_below X3.out hbw
    have x4 := cell_below X4.out hbw
    have x5 := cell_below X5.out hbw
    have x6 := cell_below X6.out hbw
    have y0 := cell_below Y0.out hbw
    have y1 := cell_below Y1.out hbw
    have y2 := cell_below Y2.out hbw
    have y3 := cell_below Y3.out hbw
    have y4 := cell_below Y4.out hbw
    have y5 := cell_below Y5.out hbw
    have y6 := cell_below Y6.out hbw
    clear hbw
    go_simp
    with_reducible rfl
  rotate_left
  · (try simp only [Act.put, List.setIfInBounds_toArray, List.set_cons_zero, List.set_cons_succ, i64_w, i32_w])
    rfl
  refine pure_ (i := 7) (N := some 57) (v := ?_) (a' := ?_) #[true, true, true, true, false, true, true, true, false, false, false, false, false, false, false, false] rfl rfl (by kernel_rfl) (fun _ _ _ h => h) (Or.inl ⟨by rfl, ?_⟩) ?_ ?_
  rotate_left
  · intro w'
    go_simp
    with_reducible rfl
  rotate_left
  · (try simp only [Act.put, List.setIfInBounds_toArray, List.set_cons_zero, List.set_cons_succ, i64_w, i32_w])
    rfl
  refine take_ (i := 8) (N := some 58) (v := ?_) (a' := ?_) #[true, true, true, true, false, true, true, true, true, false, false, false, false, false, false, false] rfl rfl (by kernel_rfl) (fun _ _ _ h => h) (Or.inl ⟨by rfl, ?_⟩) hHeld ?_ ?_
  rotate_left
  · rintro w' hS
    have cb := hS.cell 0 rfl
    have hbw := hS.old 1 rfl
    have x0 := cell_below X0.out hbw
    have x1 := cell_below X1.out hbw
    have x2 := cell_below X2.out hbw
    have x3 := cell_below X3.out hbw
    have x4 := cell_below X4.out hbw
    have x5 := cell_below X5.out hbw
    have x6 := cell_below X6.out hbw
    have y0 := cell_below Y0.out hbw
    have y1 := cell_below Y1.out hbw
    have y2 := cell_below Y2.out hbw
    have y3 := cell_below Y3.out hbw
    have y4 := cell_below Y4.out hbw
    have y5 := cell_below Y5.out hbw
    have y6 := cell_below Y6.out hbw
    clear hbw
    go_simp
    with_reducible rfl
  rotate_left
  · (try simp only [Act.put, List.setIfInBounds_toArray, List.set_cons_zero, List.set_cons_succ, i64_w, i32_w])
    rfl
  refine pure_ (i := 9) (N := some 59) (v := ?_) (a' := ?_) #[true, true, true, true, false, true, true, true, true, true, false, false, false, false, false, false] rfl rfl (by kernel_rfl) (fun _ _ _ h => h) (Or.inl ⟨by rfl, ?_⟩) ?_ ?_
  rotate_left
  · intro w'
    go_simp
    with_reducible rfl
  rotate_left
  · (try simp only [Act.put, List.setIfInBounds_toArray, List.set_cons_zero, List.set_cons_succ, i64_w, i32_w])
    rfl
  refine pure_ (i := 10) (N := some 60) (v := ?_) (a' := ?_) #[true, true, true, true, false, true, true, true, true, true, true, false, false, false, false, false] rfl rfl (by kernel_rfl) (fun _ _ _ h => h) (Or.inl ⟨by rfl, ?_⟩) ?_ ?_
  rotate_left
  · intro w'
    go_simp
    with_reducible rfl
  rotate_left
  · (try simp only [Act.put, List.setIfInBounds_toArray, List.set_cons_zero, List.set_cons_succ, i64_w, i32_w])
    rfl
  refine pure_ (i := 11) (N := some 61) (v := ?_) (a' := ?_) #[true, true, true, true, false, true, true, true, true, true, true, true, false, false, false, false] rfl rfl (by kernel_rfl) (fun _ _ _ h => h) (Or.inl ⟨by rfl, ?_⟩) ?_ ?_
  rotate_left
  · intro w'
    go_simp
    with_reducible rfl
  rotate_left
  · (try simp only [Act.put, List.setIfInBounds_toArray, List.set_cons_zero, List.set_cons_succ, i64_w, i32_w])
    rfl
  refine take_ (i := 12) (N := some 62) (v := ?_) (a' := ?_) #[true, true, true, true, false, true, true, true, true, true, true, true, true, false, false, false] rfl rfl (by kernel_rfl) (fun _ _ _ h => h) (Or.inl ⟨by rfl, ?_⟩) hHeld ?_ ?_
  rotate_left
  · rintro w' hS
    have cb := hS.cell 0 rfl
    have hbw := hS.old 1 rfl
    have x0 := cell_below X0.out hbw
    have x1 := cell_below X1.out hbw
    have x2 := cell_below X2.out hbw
    have x3 := cell_below X3.out hbw
    have x4 := cell_below X4.out hbw
    have x5 := cell_below X5.out hbw
    have x6 := cell_below X6.out hbw
    have y0 := cell_below Y0.out hbw
    have y1 := cell_below Y1.out hbw
    have y2 := cell_below Y2.out hbw
    have y3 := cell_below Y3.out hbw
    have y4 := cell_below Y4.out hbw
    have y5 := cell_below Y5.out hbw
    have y6 := cell_below Y6.out hbw
    clear hbw
    go_simp
    with_reducible rfl
  rotate_left
  · (try simp only [Act.put, List.setIfInBounds_toArray, List.set_cons_zero, List.set_cons_succ, i64_w, i32_w])
    rfl
  refine one_ (i := 4) (N := some 54) #[true, true, true, true, true, true, true, true, true, true, true, true, true, false, false, false] rfl rfl (by kernel_rfl) (by decide) (fun K hK => ?_)
  refine goes_ Tryd.func15 (by kernel_rfl) rfl #[.agg #[.int .i64 q0.f0, .int .i64 q0.f1.f0, .int .i64 q0.f1.f1, .int .i64 q0.f2, .string q0.f3, .int .i64 q0.f4, .slice B0 q0.f5.length d0]] (by rfl) rfl rfl (by (try simp only [List.map_toArray, List.map_cons, List.map_nil]); first | done | rfl) ?_
  refine (HT0.out _ (HS.old 1 rfl)).mono ?_
  rintro e w_ ⟨rfl, hb⟩
  refine ⟨_, rfl, ?_⟩
  replace HS := HS.below hb
  clear hb
  refine hK.out _ _ HS (fun hHeld => ?_)
  clear hK K
  refine norm_ (a' := ?_) ?_ ?_
  rotate_left
  · show Act.put _ _ _ = _
    (try simp only [Act.put, List.setIfInBounds_toArray, List.set_cons_zero, List.set_cons_succ, i64_w, i32_w])
    rfl
  refine one_ (i := 13) (N := some 63) #[true, true, true, true, true, true, true, true, true, true, true, true, true, true, false, false] rfl rfl (by kernel_rfl) (by decide) (fun K hK => ?_)
  refine goes_ Tryd.func15 (by kernel_rfl) rfl #[.agg #[.int .i64 q1.f0, .int .i64 q1.f1.f0, .int .i64 q1.f1.f1, .int .i64 q1.f2, .string q1.f3, .int .i64 q1.f4, .slice B1 q1.f5.length d1]] (by rfl) rfl rfl (by (try simp only [List.map_toArray, List.map_cons, List.map_nil]); first | done | rfl) ?_
  refine (HT1.out _ (HS.old 1 rfl)).mono ?_
  rintro e w_ ⟨rfl, hb⟩
  refine ⟨_, rfl, ?_⟩
  replace HS := HS.below hb
  clear hb
  refine hK.out _ _ HS (fun hHeld => ?_)
  clear hK K
  refine norm_ (a' := ?_) ?_ ?_
  rotate_left
  · show Act.put _ _ _ = _
    (try simp only [Act.put, List.setIfInBounds_toArray, List.set_cons_zero, List.set_cons_succ, i64_w, i32_w])
    rfl
  refine pure_ (i := 14) (N := some 6) (v := ?_) (a' := ?_) #[true, true, true, true, true, true, true, true, true, true, true, true, true, true, true, false] rfl rfl (by kernel_rfl) (fun _ _ _ h => h) (Or.inl ⟨by rfl, ?_⟩) ?_ ?_
  rotate_left
  · intro w'
    go_simp
    with_reducible rfl
  rotate_left
  · (try simp only [Act.put, List.setIfInBounds_toArray, List.set_cons_zero, List.set_cons_succ, i64_w, i32_w])
    rfl
  refine pure_ (i := 15) (N := some 7) (v := ?_) (a' := ?_) #[true, true, true, true, true, true, true, true, true, true, true, true, true, true, true, true] rfl rfl (by kernel_rfl) (fun _ _ _ h => h) (Or.inl ⟨by rfl, ?_⟩) ?_ ?_
  rotate_left
  · intro w'
    go_simp
    with_reducible rfl
  rotate_left
  · (try simp only [Act.put, List.setIfInBounds_toArray, List.set_cons_zero, List.set_cons_succ, i64_w, i32_w])
    rfl
  refine done_ (by kernel_rfl) ?_
  clear hHeld
  have cb := HS.cell 0 rfl
  go_wp2_with (first | ((with_reducible refine gate_bin (b := .add) (t := 9) (t' := 9) rfl ?_); go_must (refine ev_cat Tryd.underlying9 rfl rfl rfl rfl rfl (by simp only [List.length_append, List.length_cons, List.length_nil]; have := mx_le; omega) ?_)))
  go_ret
  exact ⟨ret_bs (by simp), HS.old 1 rfl⟩
set_option maxRecDepth 100000 in
set_option maxHeartbeats 2000000 in
theorem text_both (W : World) (hG : GL W) (hcap : kids.length ≤ c) (hC : Kd.C k51 W A kids.length kids) (hk0 : 0 < kids.length) (hts : ts = kids.map txtE) (ih : ∀ e ∈ kids, TextC e) (hok : okL kids) (hsz : nm.length + szL kids ≤ MX) (k1 : (K == 1) = false) (k2 : (K == 2) = false) (k3 : (K == 3) = false) (k5 : (K == 5) = false) (k4 : (K == 4) = false) (k9 : (K == 9) = false) (k7 : (K == 7) = false) (k8 : (K == 8) = false) :
    Calls Tryd.prog 15 #[.agg #[.int .i64 K, .int .i64 p0, .int .i64 p1, .int .i64 num, .string (bs nm), .int .i64 op, .slice A kids.length c]] W fun r w' => r = .returned (.string (bs (txtN K num nm op ts))) ∧ Below W.heap.size W w' := by
  have hl : ts.length = kids.length := by rw [hts, List.length_map]
  obtain ⟨ad, B0, d0, rfl, X0, X1, X2, X3, X4, X5, X6, l0, g0⟩ := at_T51 hC 0 (by decide) (by omega)
  obtain ⟨J, hJ⟩ : ∃ J : Int, (kids.length : Int) - 1 = J := ⟨_, rfl⟩
  obtain ⟨_, B1, d1, e1, Y0, Y1, Y2, Y3, Y4, Y5, Y6, l1, g1⟩ := at_T51 hC J (by omega) (by omega)
  cases e1
  have hq0 : rd_T51 kids 0 = kids[0] := rdE (i := 0) hk0
  have hq1 : rd_T51 kids J = kids[kids.length - 1] := by
    have h := rdE (kids := kids) (i := kids.length - 1) (by omega)
    rw [show ((kids.length - 1 : Nat) : Int) = J by omega] at h
    exact h
  obtain ⟨q0, h0⟩ : ∃ q, q = rd_T51 kids 0 := ⟨_, rfl⟩
  obtain ⟨q1, h1⟩ : ∃ q, q = rd_T51 kids J := ⟨_, rfl⟩
  rw [← h0] at X0 X1 X2 X3 X4 X5 X6 l0 g0 hq0
  rw [← h1] at Y0 Y1 Y2 Y3 Y4 Y5 Y6 l1 g1 hq1
  change W.cell? ad = _ at X0
  change W.cell? ⟨ad.block, ad.off + 1, none⟩ = _ at X1
  change W.cell? ⟨ad.block, ad.off + 2, none⟩ = _ at X2
  change W.cell? ⟨ad.block, ad.off + 3, none⟩ = _ at X3
  change W.cell? ⟨ad.block, ad.off + 4, none⟩ = _ at X4
  change W.cell? ⟨ad.block, ad.off + 5, none⟩ = _ at X5
  change W.cell? ⟨ad.block, ad.off + 6, none⟩ = _ at X6
  have hm0 : q0 ∈ kids := by rw [hq0]; exact List.getElem_mem _
  have hm1 : q1 ∈ kids := by rw [hq1]; exact List.getElem_mem _
  have hs0 := szL_mem hm0
  have hs1 := szL_mem hm1
  have hla : (txtE q0).length ≤ MX := by have := txtE_len q0 (okL_mem hok hm0); omega
  have hlb : (txtE q1).length ≤ MX := by have := txtE_len q1 (okL_mem hok hm1); omega
  have hnm : nm.length ≤ MX := by omega
  have hkl : kids.length ≤ MX := by have := szL_len kids; omega
  have ta : ts.getD 0 [] = txtE q0 := by rw [hts, List.getD_eq_getElem?_getD, List.getElem?_map, List.getElem?_eq_getElem hk0, hq0]; rfl
  have tb : ts.getD (ts.length - 1) [] = txtE q1 := by rw [hl, hts, List.getD_eq_getElem?_getD, List.getElem?_map, List.getElem?_eq_getElem (show kids.length - 1 < kids.length by omega), hq1]; rfl
  have HT0 := Aside0.mk (fun (w : World) (hb : Below W.heap.size W w) => ih q0 hm0 w B0 d0 (hG.below hb) (okL_mem hok hm0) (by omega) (Kd.C_below g0 hb) l0)
  have HT1 := Aside0.mk (fun (w : World) (hb : Below W.heap.size W w) => ih q1 hm1 w B1 d1 (hG.below hb) (okL_mem hok hm1) (by omega) (Kd.C_below g1 hb) l1)
  replace X0 := Aside0.mk X0
  replace Y0 := Aside0.mk Y0
  replace X1 := Aside0.mk X1
  replace Y1 := Aside0.mk Y1
  replace X2 := Aside0.mk X2
  replace Y2 := Aside0.mk Y2
  replace X3 := Aside0.mk X3
  replace Y3 := Aside0.mk Y3
  replace X4 := Aside0.mk X4
  replace Y4 := Aside0.mk Y4
  replace X5 := Aside0.mk X5
  replace Y5 := Aside0.mk Y5
  replace X6 := Aside0.mk X6
  replace Y6 := Aside0.mk Y6
  have hts0 : ¬ ts.length = 0 := by omega
  have n1 : ¬ K = 1 := by simpa using k1
  have n2 : ¬ K = 2 := by simpa using k2
  have n3 : ¬ K = 3 := by simpa using k3
  have n5 : ¬ K = 5 := by simpa using k5
  have n4 : ¬ K = 4 := by simpa using k4
  have n9 : ¬ K = 9 := by simpa using k9
  have n7 : ¬ K = 7 := by simpa using k7
  have n8 : ¬ K = 8 := by simpa using k8
  have ht : txtN K num nm op ts = [40] ++ txtE q0 ++ [32] ++ signF op ++ [32] ++ txtE q1 ++ [41] := by unfold txtN; rw [if_neg n1, if_neg n2, if_neg n3, if_neg n5, if_neg hts0, if_neg n4, if_neg n9, if_neg n7, if_neg n8, ta, tb]
  rw [ht]
  clear ht n1 n2 n3 n4 n5 n7 n8 n9
  clear ta tb hts ih hok hsz hC hl hq0 hq1 h0 h1 hm0 hm1 hs0 hs1 hts0 l0 l1 g0 g1
  have z0 : ((kids.length : Int) == 0) = false := beq_eq_false_iff_ne.2 (by omega)
  have z1 : (kids.length == 0) = false := beq_eq_false_iff_ne.2 (by omega)
  have w1 : wrap64 J = J := w64 _ (by omega) (by have := mx_le; omega)
  have p0_ : (0 ≤ J) = True := eq_true (by omega)
  have q0_ : (J < (kids.length : Int)) = True := eq_true (by omega)
  have p2 : ((0 : Int) < (kids.length : Int)) = True := eq_true (by omega)
  have p3 : (0 < kids.length) = True := eq_true hk0
  clear hk0
  obtain ⟨a, ha⟩ : ∃ a, a = txtE q0 := ⟨_, rfl⟩
  obtain ⟨b, hb_⟩ : ∃ b, b = txtE q1 := ⟨_, rfl⟩
  rw [← ha] at HT0 hla
  rw [← hb_] at HT1 hlb
  try rw [← ha]
  try rw [← hb_]
  clear ha hb_
  have HS := Sat.start W
  go_enter Tryd.func15, Tryd.ntmps15
  go_upto_region 1 with ((with_reducible refine gate_dst (N := 1) rfl ?_); go_must (refine ev_box HS rfl (N := 1) rfl (cs := #[.int .i64 K, .int .i64 p0, .int .i64 p1, .int .i64 num, .string (bs nm), .int .i64 op, .slice (some ad) kids.length c]) (t := 51) ?hrun ?_); (case hrun => first | (go_simp; done) | (go_simp; rfl)); clear HS; intro gb w HS)
  have cb := HS.cell 0 rfl
  go_wp2
  refine start_ (n := 16) (S := fun w' => Sat W w' [blk gb 51 #[.int .i64 K, .int .i64 p0, .int .i64 p1, .int .i64 num, .string (bs nm), .int .i64 op, .slice (some ad) kids.length c], old W]) (ds := []) #[false, false, false, false, false, false, false, false, false, false, false, false, false, false, false, false] (by kernel_rfl) rfl rfl HS.drew (fun hHeld => ?_)
  replace HS := HS.drew
  generalize World.drew w = w at HS hHeld ⊢
  refine pure_ (i := 0) (N := some 50) (v := ?_) (a' := ?_) #[true, false, false, false, false, false, false, false, false, false, false, false, false, false, false, false] rfl rfl (by kernel_rfl) (fun _ _ _ h => h) (Or.inl ⟨by rfl, ?_⟩) ?_ ?_
  rotate_left
  · intro w'
    go_simp
    with_reducible rfl
  rotate_left
  · (try simp only [Act.put, List.setIfInBounds_toArray, List.set_cons_zero, List.set_cons_succ, i64_w, i32_w])
    rfl
  refine take_ (i := 1) (N := some 51) (v := ?_) (a' := ?_) #[true, true, false, false, false, false, false, false, false, false, false, false, false, false, false, false] rfl rfl (by kernel_rfl) (fun _ _ _ h => h) (Or.inl ⟨by rfl, ?_⟩) hHeld ?_ ?_
  rotate_left
  · rintro w' hS
    have cb := hS.cell 0 rfl
    have hbw := hS.old 1 rfl
    have x0 := cell_below X0.out hbw
    have x1 := cell_below X1.out hbw
    have x2 := cell_below X2.out hbw
    have x3 := cell_below X3.out hbw
    have x4 := cell_below X4.out hbw
    have x5 := cell_below X5.out hbw
    have x6 := cell_below X6.out hbw
    have y0 := cell_below Y0.out hbw
    have y1 := cell_below Y1.out hbw
    have y2 := cell_below Y2.out hbw
    have y3 := cell_below Y3.out hbw
    have y4 := cell_below Y4.out hbw
    have y5 := cell_below Y5.out hbw
    have y6 := cell_below Y6.out hbw
    clear hbw
    go_simp
    with_reducible rfl
  rotate_left
  · (try simp only [Act.put, List.setIfInBounds_toArray, List.set_cons_zero, List.set_cons_succ, i64_w, i32_w])
    rfl
  refine pure_ (i := 2) (N := some 52) (v := ?_) (a' := ?_) #[true, true, true, false, false, false, false, false, false, false, false, false, false, false, false, false] rfl rfl (by kernel_rfl) (fun _ _ _ h => h) (Or.inl ⟨by rfl, ?_⟩) ?_ ?_
  rotate_left
  · intro w'
    go_simp
    with_reducible rfl
  rotate_left
  · (try simp only [Act.put, List.setIfInBounds_toArray, List.set_cons_zero, List.set_cons_succ, i64_w, i32_w])
    rfl
  refine take_ (i := 3) (N := some 53) (v := ?_) (a' := ?_) #[true, true, true, true, false, false, false, false, false, false, false, false, false, false, false, false] rfl rfl (by kernel_rfl) (fun _ _ _ h => h) (Or.inl ⟨by rfl, ?_⟩) hHeld ?_ ?_
  rotate_left
  · rintro w' hS
    have cb := hS.cell 0 rfl
    have hbw := hS.old 1 rfl
    have x0 := cell_below X0.out hbw
    have x1 := cell_below X1.out hbw
    have x2 := cell_below X2.out hbw
    have x3 := cell_below X3.out hbw
    have x4 := cell_below X4.out hbw
    have x5 := cell_below X5.out hbw
    have x6 := cell_below X6.out hbw
    have y0 := cell_below Y0.out hbw
    have y1 := cell_below Y1.out hbw
    have y2 := cell_below Y2.out hbw
    have y3 := cell_below Y3.out hbw
    have y4 := cell_below Y4.out hbw
    have y5 := cell_below Y5.out hbw
    have y6 := cell_below Y6.out hbw
    clear hbw
    go_simp
    with_reducible rfl
  rotate_left
  · (try simp only [Act.put, List.setIfInBounds_toArray, List.set_cons_zero, List.set_cons_succ, i64_w, i32_w])
    rfl
  refine pure_ (i := 5) (N := some 55) (v := ?_) (a' := ?_) #[true, true, true, true, false, true, false, false, false, false, false, false, false, false, false, false] rfl rfl (by kernel_rfl) (fun _ _ _ h => h) (Or.inl ⟨by rfl, ?_⟩) ?_ ?_
  rotate_left
  · intro w'
    go_simp
    with_reducible rfl
  rotate_left
  · (try simp only [Act.put, List.setIfInBounds_toArray, List.set_cons_zero, List.set_cons_succ, i64_w, i32_w])
    rfl
  refine take_ (i := 6) (N := some 56) (v := ?_) (a' := ?_) #[true, true, true, true, false, true, true, false, false, false, false, false, false, false, false, false] rfl rfl (by kernel_rfl) (fun _ _ _ h => h) (Or.inl ⟨by rfl, ?_⟩) hHeld ?_ ?_
  rotate_left
  · rintro w' hS
    have cb := hS.cell 0 rfl
    have hbw := hS.old 1 rfl
    have x0 := cell_below X0.out hbw
    have x1 := cell_below X1.out hbw
    have x2 := cell_below X2.out hbw
    have x3 := cell_below X3.out hbw
    have x4 := cell_below X4.out hbw
    have x5 := cell_below X5.out hbw
    have x6 := cell_below X6.out hbw
    have y0 := cell_below Y0.out hbw
    have y1 := cell_below Y1.out hbw
    have y2 := cell_below Y2.out hbw
    have y3 := cell_below Y3.out hbw
    have y4 := cell_below Y4.out hbw
    have y5 := cell_below Y5.out hbw
    have y6 := cell_below Y6.out hbw
    clear hbw
    go_simp
    with_reducible rfl
  rotate_left
  · (try simp only [Act.put, List.setIfInBounds_toArray, List.set_cons_zero, List.set_cons_succ, i64_w, i32_w])
    rfl
  refine pure_ (i := 7) (N := some 57) (v := ?_) (a' := ?_) #[true, true, true, true, false, true, true, true, false, false, false, false, false, false, false, false] rfl rfl (by kernel_rfl) (fun _ _ _ h => h) (Or.inl ⟨by rfl, ?_⟩) ?_ ?_
  rotate_left
  · intro w'
    go_simp
    with_reducible rfl
  rotate_left
  · (try simp only [Act.put, List.setIfInBounds_toArray, List.set_cons_zero, List.set_cons_succ, i64_w, i32_w])
    rfl
  refine take_ (i := 8) (N := some 58) (v := ?_) (a' := ?_) #[true, true, true, true, false, true, true, true, true, false, false, false, false, false, false, false] rfl rfl (by kernel_rfl) (fun _ _ _ h => h) (Or.inl ⟨by rfl, ?_⟩) hHeld ?_ ?_
  rotate_left
  · rintro w' hS
    have cb := hS.cell 0 rfl
    have hbw := hS.old 1 rfl
    have x0 := cell_below X0.out hbw
    have x1 := cell_below X1.out hbw
    have x2 := cell_below X2.out hbw
    have x3 := cell_below X3.out hbw
    have x4 := cell_below X4.out hbw
    have x5 := cell_below X5.out hbw
    have x6 := cell_below X6.out hbw
    have y0 := cell_below Y0.out hbw
    have y1 := cell_below Y1.out hbw
    have y2 := cell_below Y2.out hbw
    have y3 := cell_below Y3.out hbw
    have y4 := cell_below Y4.out hbw
    have y5 := cell_below Y5.out hbw
    have y6 := cell_below Y6.out hbw
    clear hbw
    go_simp
    with_reducible rfl
  rotate_left
  · (try simp only [Act.put, List.setIfInBounds_toArray, List.set_cons_zero, List.set_cons_succ, i64_w, i32_w])
    rfl
  refine pure_ (i := 9) (N := some 59) (v := ?_) (a' := ?_) #[true, true, true, true, false, true, true, true, true, true, false, false, false, false, false, false] rfl rfl (by kernel_rfl) (fun _ _ _ h => h) (Or.inl ⟨by rfl, ?_⟩) ?_ ?_
  rotate_left
  · intro w'
    go_simp
    with_reducible rfl
  rotate_left
  · (try simp only [Act.put, List.setIfInBounds_toArray, List.set_cons_zero, List.set_cons_succ, i64_w, i32_w])
    rfl
  refine pure_ (i := 10) (N := some 60) (v := ?_) (a' := ?_) #[true, true, true, true, false, true, true, true, true, true, true, false, false, false, false, false] rfl rfl (by kernel_rfl) (fun _ _ _ h => h) (Or.inl ⟨by rfl, ?_⟩) ?_ ?_
  rotate_left
  · intro w'
    go_simp
    with_reducible rfl
  rotate_left
  · (try simp only [Act.put, List.setIfInBounds_toArray, List.set_cons_zero, List.set_cons_succ, i64_w, i32_w])
    rfl
  refine pure_ (i := 11) (N := some 61) (v := ?_) (a' := ?_) #[true, true, true, true, false, true, true, true, true, true, true, true, false, false, false, false] rfl rfl (by kernel_rfl) (fun _ _ _ h => h) (Or.inl ⟨by rfl, ?_⟩) ?_ ?_
  rotate_left
  · intro w'
    go_simp
    with_reducible rfl
  rotate_left
  · (try simp only [Act.put, List.setIfInBounds_toArray, List.set_cons_zero, List.set_cons_succ, i64_w, i32_w])
    rfl
  refine take_ (i := 12) (N := some 62) (v := ?_) (a' := ?_) #[true, true, true, true, false, true, true, true, true, true, true, true, true, false, false, false] rfl rfl (by kernel_rfl) (fun _ _ _ h => h) (Or.inl ⟨by rfl, ?_⟩) hHeld ?_ ?_
  rotate_left
  · rintro w' hS
    have cb := hS.cell 0 rfl
    have hbw := hS.old 1 rfl
    have x0 := cell_below X0.out hbw
    have x1 := cell_below X1.out hbw
    have x2 := cell_below X2.out hbw
    have x3 := cell_below X3.out hbw
    have x4 := cell_below X4.out hbw
    have x5 := cell_below X5.out hbw
    have x6 := cell_below X6.out hbw
    have y0 := cell_below Y0.out hbw
    have y1 := cell_below Y1.out hbw
    have y2 := cell_below Y2.out hbw
    have y3 := cell_below Y3.out hbw
    have y4 := cell_below Y4.out hbw
    have y5 := cell_below Y5.out hbw
    have y6 := cell_below Y6.out hbw
    clear hbw
    go_simp
    with_reducible rfl
  rotate_left
  · (try simp only [Act.put, List.setIfInBounds_toArray, List.set_cons_zero, List.set_cons_succ, i64_w, i32_w])
    rfl
  refine one_ (i := 4) (N := some 54) #[true, true, true, true, true, true, true, true, true, true, true, true, true, false, false, false] rfl rfl (by kernel_rfl) (by decide) (fun K hK => ?_)
  refine goes_ Tryd.func15 (by kernel_rfl) rfl #[.agg #[.int .i64 q0.f0, .int .i64 q0.f1.f0, .int .i64 q0.f1.f1, .int .i64 q0.f2, .string q0.f3, .int .i64 q0.f4, .slice B0 q0.f5.length d0]] (by rfl) rfl rfl (by (try simp only [List.map_toArray, List.map_cons, List.map_nil]); first | done | rfl) ?_
  refine (HT0.out _ (HS.old 1 rfl)).mono ?_
  rintro e w_ ⟨rfl, hb⟩
  refine ⟨_, rfl, ?_⟩
  replace HS := HS.below hb
  clear hb
  refine hK.out _ _ HS (fun hHeld => ?_)
  clear hK K
  refine norm_ (a' := ?_) ?_ ?_
  rotate_left
  · show Act.put _ _ _ = _
    (try simp only [Act.put, List.setIfInBounds_toArray, List.set_cons_zero, List.set_cons_succ, i64_w, i32_w])
    rfl
  refine one_ (i := 13) (N := some 63) #[true, true, true, true, true, true, true, true, true, true, true, true, true, true, false, false] rfl rfl (by kernel_rfl) (by decide) (fun K hK => ?_)
  refine goes_ Tryd.func15 (by kernel_rfl) rfl #[.agg #[.int .i64 q1.f0, .int .i64 q1.f1.f0, .int .i64 q1.f1.f1, .int .i64 q1.f2, .string q1.f3, .int .i64 q1.f4, .slice B1 q1.f5.length d1]] (by rfl) rfl rfl (by (try simp only [List.map_toArray, List.map_cons, List.map_nil]); first | done | rfl) ?_
  refine (HT1.out _ (HS.old 1 rfl)).mono ?_
  rintro e w_ ⟨rfl, hb⟩
  refine ⟨_, rfl, ?_⟩
  replace HS := HS.below hb
  clear hb
  refine hK.out _ _ HS (fun hHeld => ?_)
  clear hK K
  refine norm_ (a' := ?_) ?_ ?_
  rotate_left
  · show Act.put _ _ _ = _
    (try simp only [Act.put, List.setIfInBounds_toArray, List.set_cons_zero, List.set_cons_succ, i64_w, i32_w])
    rfl
  refine pure_ (i := 14) (N := some 6) (v := ?_) (a' := ?_) #[true, true, true, true, true, true, true, true, true, true, true, true, true, true, true, false] rfl rfl (by kernel_rfl) (fun _ _ _ h => h) (Or.inl ⟨by rfl, ?_⟩) ?_ ?_
  rotate_left
  · intro w'
    go_simp
    with_reducible rfl
  rotate_left
  · (try simp only [Act.put, List.setIfInBounds_toArray, List.set_cons_zero, List.set_cons_succ, i64_w, i32_w])
    rfl
  refine pure_ (i := 15) (N := some 7) (v := ?_) (a' := ?_) #[true, true, true, true, true, true, true, true, true, true, true, true, true, true, true, true] rfl rfl (by kernel_rfl) (fun _ _ _ h => h) (Or.inl ⟨by rfl, ?_⟩) ?_ ?_
  rotate_left
  · intro w'
    go_simp
    with_reducible rfl
  rotate_left
  · (try simp only [Act.put, List.setIfInBounds_toArray, List.set_cons_zero, List.set_cons_succ, i64_w, i32_w])
    rfl
  refine done_ (by kernel_rfl) ?_
  clear hHeld
  have cb := HS.cell 0 rfl
  have hsl := sign_len op
  have HGW := Aside0.mk (hG.below (HS.old 1 rfl))
  go_wp2_with (first | (go_at_call 29; refine (sign_calls op _ HGW.out).mono ?_; rintro e w_ ⟨rfl, rfl⟩) | ((with_reducible refine gate_bin (b := .add) (t := 9) (t' := 9) rfl ?_); go_must (refine ev_cat Tryd.underlying9 rfl rfl rfl rfl rfl (by simp only [List.length_append, List.length_cons, List.length_nil]; have := mx_le; omega) ?_)))
  go_ret
  exact ⟨ret_bs (by simp), HS.old 1 rfl⟩
end
/-- Expr.Text: an expression's text. -/
theorem text_calls : ∀ e : S51, TextC e
  | ⟨k, ⟨p0, p1⟩, num, name, op, kids⟩ => by
    have ih : ∀ e ∈ kids, TextC e := fun e he => text_calls e
    intro W A c hG hok hsz hC hcap
    dsimp only at hC hcap ⊢
    rw [okE] at hok
    rw [szE] at hsz
    obtain ⟨nm, rfl⟩ : ∃ nm, name = bs nm := ⟨_, rfl⟩
    rw [txtE_node]
    change _ + nm.length + _ ≤ _ at hsz
    change Calls _ _ _ _ fun r w' => r = .returned (.string (bs (txtN k num nm op (kids.map txtE)))) ∧ _
    obtain ⟨ts, hts⟩ : ∃ ts, ts = kids.map txtE := ⟨_, rfl⟩
    rw [← hts]
    by_cases h1 : k = 1
    · subst h1; exact text_num W hG hok.1
    by_cases h2 : k = 2
    · subst h2
      by_cases hn : num = 0
      · subst hn; exact text_no W hG rfl
      · exact text_yes W hG (by simpa using hn)
    by_cases h3 : k = 3
    · subst h3; exact text_var W hG
    by_cases h5 : k = 5
    · subst h5; exact text_call W hG hC hcap hts ih hok.2 (by omega)
    have b1 : (k == 1) = false := by simpa using h1
    have b2 : (k == 2) = false := by simpa using h2
    have b3 : (k == 3) = false := by simpa using h3
    have b5 : (k == 5) = false := by simpa using h5
    by_cases h0 : kids.length = 0
    · exact text_none W hG b1 b2 b3 b5 h0 (by rw [hts, List.length_map]; exact h0)
    have h0' : 0 < kids.length := by omega
    by_cases h4 : k = 4
    · subst h4; exact text_index W hG hcap hC h0' hts ih hok.2 (by omega)
    by_cases h9 : k = 9
    · subst h9; exact text_not W hG hcap hC h0' hts ih hok.2 (by omega)
    by_cases h7 : k = 7
    · subst h7; exact text_and W hG hcap hC h0' hts ih hok.2 (by omega)
    by_cases h8 : k = 8
    · subst h8; exact text_or W hG hcap hC h0' hts ih hok.2 (by omega)
    exact text_both W hG hcap hC h0' hts ih hok.2 (by omega) b1 b2 b3 b5 (by simpa using h4) (by simpa using h9) (by simpa using h7) (by simpa using h8)
termination_by e => SizeOf.sizeOf e
decreasing_by
  have := List.sizeOf_lt_of_mem he
  simp only [S51.mk.sizeOf_spec]
  omega
end Go.Proofs.YtenkganofobioaaDoor.B
