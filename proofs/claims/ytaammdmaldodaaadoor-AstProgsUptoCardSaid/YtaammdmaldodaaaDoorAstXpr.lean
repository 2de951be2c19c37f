/- The law's own text of an expression. -/
import Derived.Test.YtaammdmaldodaaaDoorAstHead
namespace Go.Proofs.YtaammdmaldodaaaDoor.B
open Go.RowKit Go.Proofs.YtaammdmaldodaaaDoor.Mine Go.Proofs.YtaammdmaldodaaaDoor.Sep Go.Proofs.YtaammdmaldodaaaDoorW.PrintWords Go.Proofs.YtaammdmaldodaaaDoorW.PrintLast Go.Proofs.YtaammdmaldodaaaDoorW.PrintMore
set_option linter.unusedVariables false
set_option linter.unusedSimpArgs false
def XprC (e : S31) : Prop := ∀ (W : World) (A : Option Addr) (c : Nat), GL W → okE e → szE e ≤ MX → Kd.C k31 W A e.f5.length e.f5 → e.f5.length ≤ c →
    Calls Tryd.prog 36 #[.agg #[.int .i64 e.f0, .int .i64 e.f1.f0, .int .i64 e.f1.f1, .int .i64 e.f2, .string e.f3, .int .i64 e.f4, .slice A e.f5.length c]] W fun r w' => r = .returned (.string (bs (txtE e))) ∧ Below W.heap.size W w'
theorem join_snoc (x : List UInt8) : ∀ l : List (List UInt8), Lib.join (l ++ [x]) [44, 32] = (if l = [] then [] else Lib.join l [44, 32] ++ [44, 32]) ++ x
  | [] => by rw [List.nil_append, Lib.join_cons, if_pos rfl]; simp [Lib.joinTail]
  | y :: r => by
    rw [List.cons_append, Lib.join_cons, Lib.join_cons, if_neg (by simp)]
    simp [Lib.joinTail]
theorem join_nil : Lib.join ([] : List (List UInt8)) [44, 32] = [] := rfl
section
variable {p0 p1 num op : Int} {nm : List UInt8} {A : Option Addr} {c : Nat} {kids : List S31} {ts : List (List UInt8)} {K : Int}
set_option maxRecDepth 100000 in
set_option maxHeartbeats 4000000 in
theorem xpr_num (W : World) (hG : GL W) (hn : i64 num) :
    Calls Tryd.prog 36 #[.agg #[.int .i64 1, .int .i64 p0, .int .i64 p1, .int .i64 num, .string (bs nm), .int .i64 op, .slice A kids.length c]] W fun r w' => r = .returned (.string (bs (txtN 1 num nm op ts))) ∧ Below W.heap.size W w' := by
  have ht : txtN 1 num nm op ts = Lib.itoa num := by unfold txtN; rfl
  rw [ht]
  clear ht
  have HS := Sat.start W
  go_enter Tryd.func36, Tryd.ntmps36
  go_upto_region 1 with ((with_reducible refine gate_dst (N := 1) rfl ?_); go_must (refine ev_box HS rfl (N := 1) rfl (cs := #[.int .i64 1, .int .i64 p0, .int .i64 p1, .int .i64 num, .string (bs nm), .int .i64 op, .slice A kids.length c]) (t := 31) ?hrun ?_); (case hrun => first | (go_simp; done) | (go_simp; rfl)); clear HS; intro gb w HS)
  have cb := HS.cell 0 rfl
  go_wp2_with (go_at_call 40; refine (fmt_at num hn.1 hn.2 _ (hG.below (HS.old 1 rfl)).pow).mono ?_; rintro e w' ⟨rfl, hb⟩; replace HS := HS.below hb; clear hb)
  go_ret
  exact ⟨rfl, HS.old 1 rfl⟩
set_option maxRecDepth 100000 in
set_option maxHeartbeats 4000000 in
theorem xpr_no (W : World) (hG : GL W) (hn : num = 0) :
    Calls Tryd.prog 36 #[.agg #[.int .i64 2, .int .i64 p0, .int .i64 p1, .int .i64 num, .string (bs nm), .int .i64 op, .slice A kids.length c]] W fun r w' => r = .returned (.string (bs (txtN 2 num nm op ts))) ∧ Below W.heap.size W w' := by
  subst hn
  have ht : txtN 2 0 nm op ts = [102, 97, 108, 115, 101] := by unfold txtN; rfl
  rw [ht]
  clear ht
  have HS := Sat.start W
  go_enter Tryd.func36, Tryd.ntmps36
  go_upto_region 1 with ((with_reducible refine gate_dst (N := 1) rfl ?_); go_must (refine ev_box HS rfl (N := 1) rfl (cs := #[.int .i64 2, .int .i64 p0, .int .i64 p1, .int .i64 0, .string (bs nm), .int .i64 op, .slice A kids.length c]) (t := 31) ?hrun ?_); (case hrun => first | (go_simp; done) | (go_simp; rfl)); clear HS; intro gb w HS)
  have cb := HS.cell 0 rfl
  go_wp2
  go_ret
  exact ⟨rfl, HS.old 1 rfl⟩
set_option maxRecDepth 100000 in
set_option maxHeartbeats 4000000 in
theorem xpr_yes (W : World) (hG : GL W) (hn : (num == 0) = false) :
    Calls Tryd.prog 36 #[.agg #[.int .i64 2, .int .i64 p0, .int .i64 p1, .int .i64 num, .string (bs nm), .int .i64 op, .slice A kids.length c]] W fun r w' => r = .returned (.string (bs (txtN 2 num nm op ts))) ∧ Below W.heap.size W w' := by
  have ht : txtN 2 num nm op ts = [116, 114, 117, 101] := by unfold txtN; rw [if_neg (by decide), if_pos rfl, if_neg (by simpa using hn)]
  rw [ht]
  clear ht
  have hn2 : (num != 0) = true := by simpa using hn
  have HS := Sat.start W
  go_enter Tryd.func36, Tryd.ntmps36
  go_upto_region 1 with ((with_reducible refine gate_dst (N := 1) rfl ?_); go_must (refine ev_box HS rfl (N := 1) rfl (cs := #[.int .i64 2, .int .i64 p0, .int .i64 p1, .int .i64 num, .string (bs nm), .int .i64 op, .slice A kids.length c]) (t := 31) ?hrun ?_); (case hrun => first | (go_simp; done) | (go_simp; rfl)); clear HS; intro gb w HS)
  have cb := HS.cell 0 rfl
  go_wp2
  go_ret
  exact ⟨rfl, HS.old 1 rfl⟩
set_option maxRecDepth 100000 in
set_option maxHeartbeats 4000000 in
theorem xpr_var (W : World) (hG : GL W)  :
    Calls Tryd.prog 36 #[.agg #[.int .i64 3, .int .i64 p0, .int .i64 p1, .int .i64 num, .string (bs nm), .int .i64 op, .slice A kids.length c]] W fun r w' => r = .returned (.string (bs (txtN 3 num nm op ts))) ∧ Below W.heap.size W w' := by
  have ht : txtN 3 num nm op ts = nm := by unfold txtN; rfl
  rw [ht]
  clear ht
  have HS := Sat.start W
  go_enter Tryd.func36, Tryd.ntmps36
  go_upto_region 1 with ((with_reducible refine gate_dst (N := 1) rfl ?_); go_must (refine ev_box HS rfl (N := 1) rfl (cs := #[.int .i64 3, .int .i64 p0, .int .i64 p1, .int .i64 num, .string (bs nm), .int .i64 op, .slice A kids.length c]) (t := 31) ?hrun ?_); (case hrun => first | (go_simp; done) | (go_simp; rfl)); clear HS; intro gb w HS)
  have cb := HS.cell 0 rfl
  go_wp2
  go_ret
  exact ⟨rfl, HS.old 1 rfl⟩
set_option maxRecDepth 100000 in
set_option maxHeartbeats 4000000 in
theorem xpr_none (W : World) (hG : GL W) (k1 : (K == 1) = false) (k2 : (K == 2) = false) (k3 : (K == 3) = false) (k5 : (K == 5) = false) (hk0 : kids.length = 0) (hl : ts.length = 0) :
    Calls Tryd.prog 36 #[.agg #[.int .i64 K, .int .i64 p0, .int .i64 p1, .int .i64 num, .string (bs nm), .int .i64 op, .slice A kids.length c]] W fun r w' => r = .returned (.string (bs (txtN K num nm op ts))) ∧ Below W.heap.size W w' := by
  have n1 : ¬ K = 1 := by simpa using k1
  have n2 : ¬ K = 2 := by simpa using k2
  have n3 : ¬ K = 3 := by simpa using k3
  have n5 : ¬ K = 5 := by simpa using k5
  have ht : txtN K num nm op ts = [63] := by unfold txtN; rw [if_neg n1, if_neg n2, if_neg n3, if_neg n5, if_pos hl]
  rw [ht]
  clear ht n1 n2 n3 n5 hl
  obtain rfl : kids = [] := List.length_eq_zero_iff.1 hk0
  clear hk0
  have HS := Sat.start W
  go_enter Tryd.func36, Tryd.ntmps36
  go_upto_region 1 with ((with_reducible refine gate_dst (N := 1) rfl ?_); go_must (refine ev_box HS rfl (N := 1) rfl (cs := #[.int .i64 K, .int .i64 p0, .int .i64 p1, .int .i64 num, .string (bs nm), .int .i64 op, .slice A 0 c]) (t := 31) ?hrun ?_); (case hrun => first | (go_simp; done) | (go_simp; rfl)); clear HS; intro gb w HS)
  have cb := HS.cell 0 rfl
  go_wp2
  go_ret
  exact ⟨rfl, HS.old 1 rfl⟩
set_option maxRecDepth 100000 in
set_option maxHeartbeats 4000000 in
theorem xpr_call (W : World) (hG : GL W) (hC : Kd.C k31 W A kids.length kids) (hcap : kids.length ≤ c) (hts : ts = kids.map txtE) (ih : ∀ e ∈ kids, XprC e) (hok : okL kids) (hsz : nm.length + szL kids ≤ MX) :
    Calls Tryd.prog 36 #[.agg #[.int .i64 5, .int .i64 p0, .int .i64 p1, .int .i64 num, .string (bs nm), .int .i64 op, .slice A kids.length c]] W fun r w' => r = .returned (.string (bs (txtN 5 num nm op ts))) ∧ Below W.heap.size W w' := by
  have ht : txtN 5 num nm op ts = nm ++ [40] ++ Lib.join ts [44, 32] ++ [41] := by unfold txtN; rfl
  rw [ht]
  clear ht
  have hjl : (Lib.join ts [44, 32]).length ≤ MX := by
    have h1 := join_len ts
    rw [hts, List.map_map] at h1
    have h2 := sum_le ((fun t : List UInt8 => t.length + 2) ∘ txtE) (fun e => 2 * szE e + 2) kids (fun e he => by
      have := txtE_len e (okL_mem hok he)
      simp only [Function.comp]
      omega)
    rw [← szL_sum] at h2
    rw [hts]
    omega
  have hkl : kids.length ≤ MX := by have := szL_len kids; omega
  have hnm : nm.length ≤ MX := by omega
  have hl : ts.length = kids.length := by rw [hts, List.length_map]
  have HTS := Aside0.mk hts
  have HIH := Aside0.mk ih
  have HOK := Aside0.mk hok
  have HSZ := Aside0.mk hsz
  have HL := Aside0.mk hl
  have HC := Aside0.mk hC
  have HJ := Aside0.mk hjl
  clear hts ih hok hsz hl hC hjl
  have HS := Sat.start W
  go_enter Tryd.func36, Tryd.ntmps36
  go_upto_region 1 with ((with_reducible refine gate_dst (N := 1) rfl ?_); go_must (refine ev_box HS rfl (N := 1) rfl (cs := #[.int .i64 5, .int .i64 p0, .int .i64 p1, .int .i64 num, .string (bs nm), .int .i64 op, .slice A kids.length c]) (t := 31) ?hrun ?_); (case hrun => first | (go_simp; done) | (go_simp; rfl)); clear HS; intro gb w HS)
  have cb := HS.cell 0 rfl
  have hl0 : nm.length + ([40] : List UInt8).length ≤ 9223372036854775807 := by have := mx_le; simp only [List.length_cons, List.length_nil]; omega
  have hjx : ∀ i, (Lib.join (ts.take i) [44, 32]).length ≤ (Lib.join ts [44, 32]).length := by
    intro i
    cases ts with
    | nil => simp
    | cons x r =>
      cases i with
      | zero => rw [List.take_zero, join_nil]; simp
      | succ i =>
        rw [List.take_succ_cons, Lib.join_cons, Lib.join_cons, List.length_append, List.length_append]
        have := Lib.joinTail_take_le [44, 32] r i
        omega
  have HJX := Aside0.mk hjx
  clear hjx
  go_upto_region 12 with ((with_reducible refine gate_bin (b := .add) (t := 9) (t' := 9) rfl ?_); go_must (refine ev_cat (q := [40]) Tryd.underlying9 rfl rfl rfl rfl rfl hl0 ?_))
  go_wp2
  go_loopg [3, 33] (kids.length + 1) (fun kq v3 v33 w' => ∃ (i : Nat), v3 = .string (bs (nm ++ [40] ++ Lib.join (ts.take i) [44, 32])) ∧ v33 = .int .i64 (i : Int) ∧ Aside0 (i ≤ kids.length ∧ kids.length + 1 ≤ kq + i) ∧
      Aside0 (Sat W w' [blk gb 31 #[.int .i64 5, .int .i64 p0, .int .i64 p1, .int .i64 num, .string (bs nm), .int .i64 op, .slice A kids.length c], old W]))
  case atStart => exact ⟨0, by rw [List.take_zero, join_nil, List.append_nil], rfl, ⟨by omega, by omega⟩, ⟨HS⟩⟩
  case round =>
    clear HS cb
    obtain ⟨i, rfl, rfl, HI, HS'⟩ := hrel
    have HS := HS'.out
    clear HS'
    cases gk with
    | zero => have := HI.out; omega
    | succ k1 =>
      obtain ⟨R, hR⟩ : ∃ R, R = nm ++ [40] ++ Lib.join (ts.take i) [44, 32] := ⟨_, rfl⟩
      rw [← hR]
      have hrl : R.length ≤ 3 * MX := by rw [hR, List.length_append, List.length_append]; have := HJX.out i; have := HJ.out; simp only [List.length_cons, List.length_nil]; have : 1 ≤ MX := by decide
                                         omega
      by_cases hk : i < kids.length
      · obtain ⟨I, hI_⟩ : ∃ I : Int, (i : Int) = I := ⟨_, rfl⟩
        have pI : 0 ≤ I := by omega
        have q1 : I < (kids.length : Int) := by omega
        have c1_ : decide (I < (kids.length : Int)) = true := decide_eq_true q1
        have hbw := HS.old 1 rfl
        obtain ⟨ad, B6, d6, rfl, x0, x1, x2, x3, x4, x5, x6, l6, g6⟩ := at_T31 HC.out I pI q1
        replace x0 := cell_below x0 hbw
        replace x1 := cell_below x1 hbw
        replace x2 := cell_below x2 hbw
        replace x3 := cell_below x3 hbw
        replace x4 := cell_below x4 hbw
        replace x5 := cell_below x5 hbw
        replace x6 := cell_below x6 hbw
        clear hbw
        have hq : rd_T31 kids I = kids[i] := by rw [← hI_]; exact rdE hk
        obtain ⟨q, hqq⟩ : ∃ z_, z_ = rd_T31 kids I := ⟨_, rfl⟩
        rw [← hqq] at x0 x1 x2 x3 x4 x5 x6 l6 g6 hq
        have hmem : q ∈ kids := by rw [hq]; exact List.getElem_mem hk
        have hq1 := szL_mem hmem
        have HIQ := HIH.out q hmem
        have hlq : (txtE q).length ≤ MX := by have := txtE_len q (okL_mem HOK.out hmem); have := HSZ.out; omega
        have HQ := Aside0.mk (show nm ++ [40] ++ Lib.join (ts.take (i + 1)) [44, 32] = (if i = 0 then R else R ++ [44, 32]) ++ txtE q from by
          have h2 : i < ts.length := by rw [HL.out]; exact hk
          have h3 : ts[i] = txtE q := by rw [hq]; simp [HTS.out]
          rw [List.take_succ_eq_append_getElem h2, join_snoc, h3, hR]
          by_cases hi0 : i = 0
          · subst hi0; simp [join_nil]
          · rw [if_neg hi0, if_neg (by intro hn; have := congrArg List.length hn; rw [List.length_take, List.length_nil] at this; omega)]; simp)
        have HTX := Aside0.mk (fun (w : World) (hb : Below W.heap.size W w) => HIQ w B6 d6 (hG.below hb) (okL_mem HOK.out hmem) (by have := HSZ.out; omega) (Kd.C_below g6 hb) l6)
        have hwi : wrap64 (I + 1) = I + 1 := w64 _ (by omega) (by have := mx_le; omega)
        have HII := Aside0.mk (show (i : Int) = I ∧ i < kids.length from ⟨hI_, hk⟩)
        obtain ⟨X, hX⟩ : ∃ X, X = txtE q := ⟨_, rfl⟩
        rw [← hX] at HTX HQ hlq
        have h44 : R.length + ([44, 32] : List UInt8).length ≤ 9223372036854775807 := by have := mx_le; simp only [List.length_cons, List.length_nil]; omega
        have h45 : (R ++ [44, 32]).length + X.length ≤ 9223372036854775807 := by have := mx_le; simp only [List.length_append, List.length_cons, List.length_nil]; omega
        have h46 : R.length + X.length ≤ 9223372036854775807 := by have := mx_le; omega
        have hi1 : i = 0 → ((0 : Int) < I) = False := fun h => eq_false (by omega)
        have hi2 : ¬ i = 0 → ((0 : Int) < I) = True := fun h => eq_true (by omega)
        have HRL := Aside0.mk hrl
        rw [hI_]
        clear hq hqq hmem HIQ hI_ hk hq1 g6 hR hX hrl hlq
        have r1 := eq_true pI
        have r2 := eq_true q1
        go_upto_region 15 with (first | ((with_reducible refine gate_dst (N := 5) rfl ?_); go_must (refine ev_box HS rfl (N := 5) rfl (cs := #[.int .i64 0, .int .i64 0, .int .i64 0, .int .i64 0, .string ⟨#[]⟩, .int .i64 0, .slice none 0 0]) (t := 31) ?hrun ?_); (case hrun => first | (go_simp; done) | (go_simp; rfl)); clear HS; intro g5 w HS) | ((with_reducible refine gate_store (t := 31) (p := 5) rfl ?_); go_must (refine ev_store HS 0 rfl rfl 31 (.tmp 5) (.tmp 37) rfl rfl rfl [.int .i64 q.f0, .int .i64 q.f1.f0, .int .i64 q.f1.f1, .int .i64 q.f2, .string q.f3, .int .i64 q.f4, .slice B6 q.f5.length d6] ?hx (by kernel_rfl) (by rfl) ?h1 ?_); (case hx => first | rfl | (go_simp; done)); (case h1 => simp [Value.oneCell']); clear HS; intro w HS))
        have hob := HS.old 2 rfl
        by_cases hi0 : i = 0
        · have hz := hi1 hi0
          have HI0 := Aside0.mk hi0
          clear hi1 hi2 hi0 h44 h45
          go_upto_region 17 with (fail)
          go_wp2_with (first | ((with_reducible refine gate_dst (N := 43) rfl ?_); ((with_reducible refine gate_load (ty := 31) (p := 5) rfl ?_); go_must (refine ev_load HS 0 rfl rfl 31 (.tmp 5) rfl (N := 43) rfl rfl _ Tryd.underlying31 rfl (by kernel_rfl) ?_))) | (go_at_call 36; refine (HTX.out _ hob).mono ?_; rintro e w_ ⟨rfl, hb⟩; replace HS := HS.below hb; clear hb hob) | ((with_reducible refine gate_bin (b := .add) (t := 9) (t' := 9) rfl ?_); go_must (refine ev_cat Tryd.underlying9 rfl rfl rfl rfl rfl h46 ?_)))
          go_roundg k1
          case measure => omega
          case rel =>
            have h1 := HII.out
            refine ⟨i + 1, ?_, by rw [hwi, ← h1.1]; rfl, ⟨by omega, by have := HI.out; omega⟩, ⟨HS.tail⟩⟩
            rw [HQ.out, if_pos HI0.out]
        · have hz := hi2 hi0
          have HI0 := Aside0.mk hi0
          clear hi1 hi2 hi0 h46
          go_upto_region 17 with ((with_reducible refine gate_bin (b := .add) (t := 9) (t' := 9) rfl ?_); go_must (refine ev_cat (q := [44, 32]) Tryd.underlying9 rfl rfl rfl rfl rfl h44 ?_))
          go_wp2_with (first | ((with_reducible refine gate_dst (N := 43) rfl ?_); ((with_reducible refine gate_load (ty := 31) (p := 5) rfl ?_); go_must (refine ev_load HS 0 rfl rfl 31 (.tmp 5) rfl (N := 43) rfl rfl _ Tryd.underlying31 rfl (by kernel_rfl) ?_))) | (go_at_call 36; refine (HTX.out _ hob).mono ?_; rintro e w_ ⟨rfl, hb⟩; replace HS := HS.below hb; clear hb hob) | ((with_reducible refine gate_bin (b := .add) (t := 9) (t' := 9) rfl ?_); go_must (refine ev_cat Tryd.underlying9 rfl rfl rfl rfl rfl h45 ?_)))
          go_roundg k1
          case measure => omega
          case rel =>
            have h1 := HII.out
            refine ⟨i + 1, ?_, by rw [hwi, ← h1.1]; rfl, ⟨by omega, by have := HI.out; omega⟩, ⟨HS.tail⟩⟩
            rw [HQ.out, if_neg HI0.out]
            simp
      · have hkk : i = kids.length := by have := HI.out.1; omega
        subst hkk
        have hkb : decide (kids.length < kids.length) = false := decide_eq_false (Nat.lt_irrefl _)
        have hkb2 : decide ((kids.length : Int) < (kids.length : Int)) = false := decide_eq_false (by omega)
        have hte : ts.take kids.length = ts := by rw [← HL.out]; exact List.take_length
        rw [hte] at hR
        have HRR := Aside0.mk hR
        have h44 : R.length + ([41] : List UInt8).length ≤ 9223372036854775807 := by have := mx_le; simp only [List.length_cons, List.length_nil]; omega
        clear hte hk hR hrl
        go_wp2_with ((with_reducible refine gate_bin (b := .add) (t := 9) (t' := 9) rfl ?_); go_must (refine ev_cat (q := [41]) Tryd.underlying9 rfl rfl rfl rfl rfl h44 ?_))
        go_ret
        exact ⟨ret_bs (by rw [HRR.out]), HS.old 1 rfl⟩
set_option maxRecDepth 100000 in
set_option maxHeartbeats 4000000 in
theorem xpr_index (W : World) (hG : GL W) (hcap : kids.length ≤ c) (hC : Kd.C k31 W A kids.length kids) (hk0 : 0 < kids.length) (hts : ts = kids.map txtE) (ih : ∀ e ∈ kids, XprC e) (hok : okL kids) (hsz : nm.length + szL kids ≤ MX) :
    Calls Tryd.prog 36 #[.agg #[.int .i64 4, .int .i64 p0, .int .i64 p1, .int .i64 num, .string (bs nm), .int .i64 op, .slice A kids.length c]] W fun r w' => r = .returned (.string (bs (txtN 4 num nm op ts))) ∧ Below W.heap.size W w' := by
  have hl : ts.length = kids.length := by rw [hts, List.length_map]
  obtain ⟨ad, B0, d0, rfl, X0, X1, X2, X3, X4, X5, X6, l0, g0⟩ := at_T31 hC 0 (by decide) (by omega)
  obtain ⟨J, hJ⟩ : ∃ J : Int, (kids.length : Int) - 1 = J := ⟨_, rfl⟩
  obtain ⟨_, B1, d1, e1, Y0, Y1, Y2, Y3, Y4, Y5, Y6, l1, g1⟩ := at_T31 hC J (by omega) (by omega)
  cases e1
  have hq0 : rd_T31 kids 0 = kids[0] := rdE (i := 0) hk0
  have hq1 : rd_T31 kids J = kids[kids.length - 1] := by
    have h := rdE (kids := kids) (i := kids.length - 1) (by omega)
    rw [show ((kids.length - 1 : Nat) : Int) = J by omega] at h
    exact h
  obtain ⟨q0, h0⟩ : ∃ q, q = rd_T31 kids 0 := ⟨_, rfl⟩
  obtain ⟨q1, h1⟩ : ∃ q, q = rd_T31 kids J := ⟨_, rfl⟩
  rw [← h0] at X0 X1 X2 X3 X4 X5 X6 l0 g0 hq0
  rw [← h1] at Y0 Y1 Y2 Y3 Y4 Y5 Y6 l1 g1 hq1
  change W.cell? ad = _ at X0
  change W.cell? ⟨ad.block, ad.off + 1, none⟩ = _ at X1
  change W.cell? ⟨ad.block, ad.off + 2, none⟩ = _ at X2
  change W.cell? ⟨ad.block, ad.off + 3, none⟩ = _ at X3
  change W.cell? ⟨ad.block, ad.off + 4, none⟩ = _ at X4
  change W.cell? ⟨ad.block, ad.off + 5, none⟩ = _ at X5
  change W.cell? ⟨ad.block, ad.off + 6, none⟩ = _ at X6
  have hm0 : q0 ∈ kids := by rw [hq0]; exact List.getElem_mem _
  have hm1 : q1 ∈ kids := by rw [hq1]; exact List.getElem_mem _
  have hs0 := szL_mem hm0
  have hs1 := szL_mem hm1
  have hla : (txtE q0).length ≤ MX := by have := txtE_len q0 (okL_mem hok hm0); omega
  have hlb : (txtE q1).length ≤ MX := by have := txtE_len q1 (okL_mem hok hm1); omega
  have hnm : nm.length ≤ MX := by omega
  have hkl : kids.length ≤ MX := by have := szL_len kids; omega
  have ta : ts.getD 0 [] = txtE q0 := by rw [hts, List.getD_eq_getElem?_getD, List.getElem?_map, List.getElem?_eq_getElem hk0, hq0]; rfl
  have tb : ts.getD (ts.length - 1) [] = txtE q1 := by rw [hl, hts, List.getD_eq_getElem?_getD, List.getElem?_map, List.getElem?_eq_getElem (show kids.length - 1 < kids.length by omega), hq1]; rfl
  have HT0 := Aside0.mk (fun (w : World) (hb : Below W.heap.size W w) => ih q0 hm0 w B0 d0 (hG.below hb) (okL_mem hok hm0) (by omega) (Kd.C_below g0 hb) l0)
  have HT1 := Aside0.mk (fun (w : World) (hb : Below W.heap.size W w) => ih q1 hm1 w B1 d1 (hG.below hb) (okL_mem hok hm1) (by omega) (Kd.C_below g1 hb) l1)
  replace X0 := Aside0.mk X0
  replace Y0 := Aside0.mk Y0
  replace X1 := Aside0.mk X1
  replace Y1 := Aside0.mk Y1
  replace X2 := Aside0.mk X2
  replace Y2 := Aside0.mk Y2
  replace X3 := Aside0.mk X3
  replace Y3 := Aside0.mk Y3
  replace X4 := Aside0.mk X4
  replace Y4 := Aside0.mk Y4
  replace X5 := Aside0.mk X5
  replace Y5 := Aside0.mk Y5
  replace X6 := Aside0.mk X6
  replace Y6 := Aside0.mk Y6
  have hts0 : ¬ ts.length = 0 := by omega
  have ht : txtN 4 num nm op ts = nm ++ [91] ++ txtE q0 ++ [93] := by unfold txtN; rw [if_neg (by decide), if_neg (by decide), if_neg (by decide), if_neg (by decide), if_neg hts0, if_pos rfl, ta]
  rw [ht]
  clear ht
  clear ta tb hts ih hok hsz hC hl hq0 hq1 h0 h1 hm0 hm1 hs0 hs1 hts0 l0 l1 g0 g1
  have z0 : ((kids.length : Int) == 0) = false := beq_eq_false_iff_ne.2 (by omega)
  have z1 : (kids.length == 0) = false := beq_eq_false_iff_ne.2 (by omega)
  have w1 : wrap64 J = J := w64 _ (by omega) (by have := mx_le; omega)
  have p0_ : (0 ≤ J) = True := eq_true (by omega)
  have q0_ : (J < (kids.length : Int)) = True := eq_true (by omega)
  have p2 : ((0 : Int) < (kids.length : Int)) = True := eq_true (by omega)
  have p3 : (0 < kids.length) = True := eq_true hk0
  clear hk0
  obtain ⟨a, ha⟩ : ∃ a, a = txtE q0 := ⟨_, rfl⟩
  obtain ⟨b, hb_⟩ : ∃ b, b = txtE q1 := ⟨_, rfl⟩
  rw [← ha] at HT0 hla
  rw [← hb_] at HT1 hlb
  try rw [← ha]
  try rw [← hb_]
  clear ha hb_
  have HSG := Aside0.mk (fun (w : World) (hb : Below W.heap.size W w) => sign_calls op w (hG.below hb))
  have hsg := sign_len op
  obtain ⟨sg, hsg_⟩ : ∃ sg, sg = signF op := ⟨_, rfl⟩
  rw [← hsg_] at HSG hsg
  try rw [← hsg_]
  clear hsg_
  have HS := Sat.start W
  go_enter Tryd.func36, Tryd.ntmps36
  go_upto_region 1 with ((with_reducible refine gate_dst (N := 1) rfl ?_); go_must (refine ev_box HS rfl (N := 1) rfl (cs := #[.int .i64 4, .int .i64 p0, .int .i64 p1, .int .i64 num, .string (bs nm), .int .i64 op, .slice (some ad) kids.length c]) (t := 31) ?hrun ?_); (case hrun => first | (go_simp; done) | (go_simp; rfl)); clear HS; intro gb w HS)
  have cb := HS.cell 0 rfl
  go_upto_region 22 with (fail)
  have hbw := HS.old 1 rfl
  have x0 := cell_below X0.out hbw
  have x1 := cell_below X1.out hbw
  have x2 := cell_below X2.out hbw
  have x3 := cell_below X3.out hbw
  have x4 := cell_below X4.out hbw
  have x5 := cell_below X5.out hbw
  have x6 := cell_below X6.out hbw
  clear hbw
  go_upto_region 23 with (go_at_call 36; refine (HT0.out _ (HS.old 1 rfl)).mono ?_; rintro e w_ ⟨rfl, hb⟩; replace HS := HS.below hb; clear hb)
  clear x0 x1 x2 x3 x4 x5 x6 cb
  have cb := HS.cell 0 rfl
  have hbw := HS.old 1 rfl
  have y0 := cell_below Y0.out hbw
  have y1 := cell_below Y1.out hbw
  have y2 := cell_below Y2.out hbw
  have y3 := cell_below Y3.out hbw
  have y4 := cell_below Y4.out hbw
  have y5 := cell_below Y5.out hbw
  have y6 := cell_below Y6.out hbw
  clear hbw
  go_upto_region 24 with (go_at_call 36; refine (HT1.out _ (HS.old 1 rfl)).mono ?_; rintro e w_ ⟨rfl, hb⟩; replace HS := HS.below hb; clear hb)
  clear y0 y1 y2 y3 y4 y5 y6 cb
  have cb := HS.cell 0 rfl
  go_upto_region 25 with (go_at_call 8; refine (HSG.out _ (HS.old 1 rfl)).mono ?_; rintro e w_ ⟨rfl, rfl⟩)
  go_wp2_with ((with_reducible refine gate_bin (b := .add) (t := 9) (t' := 9) rfl ?_); go_must (refine ev_cat Tryd.underlying9 rfl rfl rfl rfl rfl (by simp only [List.length_append, List.length_cons, List.length_nil]; have := mx_le; omega) ?_))
  go_ret
  exact ⟨ret_bs (by simp), HS.old 1 rfl⟩
set_option maxRecDepth 100000 in
set_option maxHeartbeats 4000000 in
theorem xpr_not (W : World) (hG : GL W) (hcap : kids.length ≤ c) (hC : Kd.C k31 W A kids.length kids) (hk0 : 0 < kids.length) (hts : ts = kids.map txtE) (ih : ∀ e ∈ kids, XprC e) (hok : okL kids) (hsz : nm.length + szL kids ≤ MX) :
    Calls Tryd.prog 36 #[.agg #[.int .i64 9, .int .i64 p0, .int .i64 p1, .int .i64 num, .string (bs nm), .int .i64 op, .slice A kids.length c]] W fun r w' => r = .returned (.string (bs (txtN 9 num nm op ts))) ∧ Below W.heap.size W w' := by
  have hl : ts.length = kids.length := by rw [hts, List.length_map]
  obtain ⟨ad, B0, d0, rfl, X0, X1, X2, X3, X4, X5, X6, l0, g0⟩ := at_T31 hC 0 (by decide) (by omega)
  obtain ⟨J, hJ⟩ : ∃ J : Int, (kids.length : Int) - 1 = J := ⟨_, rfl⟩
  obtain ⟨_, B1, d1, e1, Y0, Y1, Y2, Y3, Y4, Y5, Y6, l1, g1⟩ := at_T31 hC J (by omega) (by omega)
  cases e1
  have hq0 : rd_T31 kids 0 = kids[0] := rdE (i := 0) hk0
  have hq1 : rd_T31 kids J = kids[kids.length - 1] := by
    have h := rdE (kids := kids) (i := kids.length - 1) (by omega)
    rw [show ((kids.length - 1 : Nat) : Int) = J by omega] at h
    exact h
  obtain ⟨q0, h0⟩ : ∃ q, q = rd_T31 kids 0 := ⟨_, rfl⟩
  obtain ⟨q1, h1⟩ : ∃ q, q = rd_T31 kids J := ⟨_, rfl⟩
  rw [← h0] at X0 X1 X2 X3 X4 X5 X6 l0 g0 hq0
  rw [← h1] at Y0 Y1 Y2 Y3 Y4 Y5 Y6 l1 g1 hq1
  change W.cell? ad = _ at X0
  change W.cell? ⟨ad.block, ad.off + 1, none⟩ = _ at X1
  change W.cell? ⟨ad.block, ad.off + 2, none⟩ = _ at X2
  change W.cell? ⟨ad.block, ad.off + 3, none⟩ = _ at X3
  change W.cell? ⟨ad.block, ad.off + 4, none⟩ = _ at X4
  change W.cell? ⟨ad.block, ad.off + 5, none⟩ = _ at X5
  change W.cell? ⟨ad.block, ad.off + 6, none⟩ = _ at X6
  have hm0 : q0 ∈ kids := by rw [hq0]; exact List.getElem_mem _
  have hm1 : q1 ∈ kids := by rw [hq1]; exact List.getElem_mem _
  have hs0 := szL_mem hm0
  have hs1 := szL_mem hm1
  have hla : (txtE q0).length ≤ MX := by have := txtE_len q0 (okL_mem hok hm0); omega
  have hlb : (txtE q1).length ≤ MX := by have := txtE_len q1 (okL_mem hok hm1); omega
  have hnm : nm.length ≤ MX := by omega
  have hkl : kids.length ≤ MX := by have := szL_len kids; omega
  have ta : ts.getD 0 [] = txtE q0 := by rw [hts, List.getD_eq_getElem?_getD, List.getElem?_map, List.getElem?_eq_getElem hk0, hq0]; rfl
  have tb : ts.getD (ts.length - 1) [] = txtE q1 := by rw [hl, hts, List.getD_eq_getElem?_getD, List.getElem?_map, List.getElem?_eq_getElem (show kids.length - 1 < kids.length by omega), hq1]; rfl
  have HT0 := Aside0.mk (fun (w : World) (hb : Below W.heap.size W w) => ih q0 hm0 w B0 d0 (hG.below hb) (okL_mem hok hm0) (by omega) (Kd.C_below g0 hb) l0)
  have HT1 := Aside0.mk (fun (w : World) (hb : Below W.heap.size W w) => ih q1 hm1 w B1 d1 (hG.below hb) (okL_mem hok hm1) (by omega) (Kd.C_below g1 hb) l1)
  replace X0 := Aside0.mk X0
  replace Y0 := Aside0.mk Y0
  replace X1 := Aside0.mk X1
  replace Y1 := Aside0.mk Y1
  replace X2 := Aside0.mk X2
  replace Y2 := Aside0.mk Y2
  replace X3 := Aside0.mk X3
  replace Y3 := Aside0.mk Y3
  replace X4 := Aside0.mk X4
  replace Y4 := Aside0.mk Y4
  replace X5 := Aside0.mk X5
  replace Y5 := Aside0.mk Y5
  replace X6 := Aside0.mk X6
  replace Y6 := Aside0.mk Y6
  have hts0 : ¬ ts.length = 0 := by omega
  have ht : txtN 9 num nm op ts = [33] ++ txtE q0 := by unfold txtN; rw [if_neg (by decide), if_neg (by decide), if_neg (by decide), if_neg (by decide), if_neg hts0, if_neg (by decide), if_pos rfl, ta]
  rw [ht]
  clear ht
  clear ta tb hts ih hok hsz hC hl hq0 hq1 h0 h1 hm0 hm1 hs0 hs1 hts0 l0 l1 g0 g1
  have z0 : ((kids.length : Int) == 0) = false := beq_eq_false_iff_ne.2 (by omega)
  have z1 : (kids.length == 0) = false := beq_eq_false_iff_ne.2 (by omega)
  have w1 : wrap64 J = J := w64 _ (by omega) (by have := mx_le; omega)
  have p0_ : (0 ≤ J) = True := eq_true (by omega)
  have q0_ : (J < (kids.length : Int)) = True := eq_true (by omega)
  have p2 : ((0 : Int) < (kids.length : Int)) = True := eq_true (by omega)
  have p3 : (0 < kids.length) = True := eq_true hk0
  clear hk0
  obtain ⟨a, ha⟩ : ∃ a, a = txtE q0 := ⟨_, rfl⟩
  obtain ⟨b, hb_⟩ : ∃ b, b = txtE q1 := ⟨_, rfl⟩
  rw [← ha] at HT0 hla
  rw [← hb_] at HT1 hlb
  try rw [← ha]
  try rw [← hb_]
  clear ha hb_
  have HSG := Aside0.mk (fun (w : World) (hb : Below W.heap.size W w) => sign_calls op w (hG.below hb))
  have hsg := sign_len op
  obtain ⟨sg, hsg_⟩ : ∃ sg, sg = signF op := ⟨_, rfl⟩
  rw [← hsg_] at HSG hsg
  try rw [← hsg_]
  clear hsg_
  have HS := Sat.start W
  go_enter Tryd.func36, Tryd.ntmps36
  go_upto_region 1 with ((with_reducible refine gate_dst (N := 1) rfl ?_); go_must (refine ev_box HS rfl (N := 1) rfl (cs := #[.int .i64 9, .int .i64 p0, .int .i64 p1, .int .i64 num, .string (bs nm), .int .i64 op, .slice (some ad) kids.length c]) (t := 31) ?hrun ?_); (case hrun => first | (go_simp; done) | (go_simp; rfl)); clear HS; intro gb w HS)
  have cb := HS.cell 0 rfl
  go_upto_region 22 with (fail)
  have hbw := HS.old 1 rfl
  have x0 := cell_below X0.out hbw
  have x1 := cell_below X1.out hbw
  have x2 := cell_below X2.out hbw
  have x3 := cell_below X3.out hbw
  have x4 := cell_below X4.out hbw
  have x5 := cell_below X5.out hbw
  have x6 := cell_below X6.out hbw
  clear hbw
  go_upto_region 23 with (go_at_call 36; refine (HT0.out _ (HS.old 1 rfl)).mono ?_; rintro e w_ ⟨rfl, hb⟩; replace HS := HS.below hb; clear hb)
  clear x0 x1 x2 x3 x4 x5 x6 cb
  have cb := HS.cell 0 rfl
  have hbw := HS.old 1 rfl
  have y0 := cell_below Y0.out hbw
  have y1 := cell_below Y1.out hbw
  have y2 := cell_below Y2.out hbw
  have y3 := cell_below Y3.out hbw
  have y4 := cell_below Y4.out hbw
  have y5 := cell_below Y5.out hbw
  have y6 := cell_below Y6.out hbw
  clear hbw
  go_upto_region 24 with (go_at_call 36; refine (HT1.out _ (HS.old 1 rfl)).mono ?_; rintro e w_ ⟨rfl, hb⟩; replace HS := HS.below hb; clear hb)
  clear y0 y1 y2 y3 y4 y5 y6 cb
  have cb := HS.cell 0 rfl
  go_upto_region 25 with (go_at_call 8; refine (HSG.out _ (HS.old 1 rfl)).mono ?_; rintro e w_ ⟨rfl, rfl⟩)
  go_wp2_with ((with_reducible refine gate_bin (b := .add) (t := 9) (t' := 9) rfl ?_); go_must (refine ev_cat Tryd.underlying9 rfl rfl rfl rfl rfl (by simp only [List.length_append, List.length_cons, List.length_nil]; have := mx_le; omega) ?_))
  go_ret
  exact ⟨ret_bs (by simp), HS.old 1 rfl⟩
set_option maxRecDepth 100000 in
set_option maxHeartbeats 4000000 in
theorem xpr_and (W : World) (hG : GL W) (hcap : kids.length ≤ c) (hC : Kd.C k31 W A kids.length kids) (hk0 : 0 < kids.length) (hts : ts = kids.map txtE) (ih : ∀ e ∈ kids, XprC e) (hok : okL kids) (hsz : nm.length + szL kids ≤ MX) :
    Calls Tryd.prog 36 #[.agg #[.int .i64 7, .int .i64 p0, .int .i64 p1, .int .i64 num, .string (bs nm), .int .i64 op, .slice A kids.length c]] W fun r w' => r = .returned (.string (bs (txtN 7 num nm op ts))) ∧ Below W.heap.size W w' := by
  have hl : ts.length = kids.length := by rw [hts, List.length_map]
  obtain ⟨ad, B0, d0, rfl, X0, X1, X2, X3, X4, X5, X6, l0, g0⟩ := at_T31 hC 0 (by decide) (by omega)
  obtain ⟨J, hJ⟩ : ∃ J : Int, (kids.length : Int) - 1 = J := ⟨_, rfl⟩
  obtain ⟨_, B1, d1, e1, Y0, Y1, Y2, Y3, Y4, Y5, Y6, l1, g1⟩ := at_T31 hC J (by omega) (by omega)
  cases e1
  have hq0 : rd_T31 kids 0 = kids[0] := rdE (i := 0) hk0
  have hq1 : rd_T31 kids J = kids[kids.length - 1] := by
    have h := rdE (kids := kids) (i := kids.length - 1) (by omega)
    rw [show ((kids.length - 1 : Nat) : Int) = J by omega] at h
    exact h
  obtain ⟨q0, h0⟩ : ∃ q, q = rd_T31 kids 0 := ⟨_, rfl⟩
  obtain ⟨q1, h1⟩ : ∃ q, q = rd_T31 kids J := ⟨_, rfl⟩
  rw [← h0] at X0 X1 X2 X3 X4 X5 X6 l0 g0 hq0
  rw [← h1] at Y0 Y1 Y2 Y3 Y4 Y5 Y6 l1 g1 hq1
  change W.cell? ad = _ at X0
  change W.cell? ⟨ad.block, ad.off + 1, none⟩ = _ at X1
  change W.cell? ⟨ad.block, ad.off + 2, none⟩ = _ at X2
  change W.cell? ⟨ad.block, ad.off + 3, none⟩ = _ at X3
  change W.cell? ⟨ad.block, ad.off + 4, none⟩ = _ at X4
  change W.cell? ⟨ad.block, ad.off + 5, none⟩ = _ at X5
  change W.cell? ⟨ad.block, ad.off + 6, none⟩ = _ at X6
  have hm0 : q0 ∈ kids := by rw [hq0]; exact List.getElem_mem _
  have hm1 : q1 ∈ kids := by rw [hq1]; exact List.getElem_mem _
  have hs0 := szL_mem hm0
  have hs1 := szL_mem hm1
  have hla : (txtE q0).length ≤ MX := by have := txtE_len q0 (okL_mem hok hm0); omega
  have hlb : (txtE q1).length ≤ MX := by have := txtE_len q1 (okL_mem hok hm1); omega
  have hnm : nm.length ≤ MX := by omega
  have hkl : kids.length ≤ MX := by have := szL_len kids; omega
  have ta : ts.getD 0 [] = txtE q0 := by rw [hts, List.getD_eq_getElem?_getD, List.getElem?_map, List.getElem?_eq_getElem hk0, hq0]; rfl
  have tb : ts.getD (ts.length - 1) [] = txtE q1 := by rw [hl, hts, List.getD_eq_getElem?_getD, List.getElem?_map, List.getElem?_eq_getElem (show kids.length - 1 < kids.length by omega), hq1]; rfl
  have HT0 := Aside0.mk (fun (w : World) (hb : Below W.heap.size W w) => ih q0 hm0 w B0 d0 (hG.below hb) (okL_mem hok hm0) (by omega) (Kd.C_below g0 hb) l0)
  have HT1 := Aside0.mk (fun (w : World) (hb : Below W.heap.size W w) => ih q1 hm1 w B1 d1 (hG.below hb) (okL_mem hok hm1) (by omega) (Kd.C_below g1 hb) l1)
  replace X0 := Aside0.mk X0
  replace Y0 := Aside0.mk Y0
  replace X1 := Aside0.mk X1
  replace Y1 := Aside0.mk Y1
  replace X2 := Aside0.mk X2
  replace Y2 := Aside0.mk Y2
  replace X3 := Aside0.mk X3
  replace Y3 := Aside0.mk Y3
  replace X4 := Aside0.mk X4
  replace Y4 := Aside0.mk Y4
  replace X5 := Aside0.mk X5
  replace Y5 := Aside0.mk Y5
  replace X6 := Aside0.mk X6
  replace Y6 := Aside0.mk Y6
  have hts0 : ¬ ts.length = 0 := by omega
  have ht : txtN 7 num nm op ts = [40] ++ txtE q0 ++ [32, 38, 38, 32] ++ txtE q1 ++ [41] := by unfold txtN; rw [if_neg (by decide), if_neg (by decide), if_neg (by decide), if_neg (by decide), if_neg hts0, if_neg (by decide), if_neg (by decide), if_pos rfl, ta, tb]
  rw [ht]
  clear ht
  clear ta tb hts ih hok hsz hC hl hq0 hq1 h0 h1 hm0 hm1 hs0 hs1 hts0 l0 l1 g0 g1
  have z0 : ((kids.length : Int) == 0) = false := beq_eq_false_iff_ne.2 (by omega)
  have z1 : (kids.length == 0) = false := beq_eq_false_iff_ne.2 (by omega)
  have w1 : wrap64 J = J := w64 _ (by omega) (by have := mx_le; omega)
  have p0_ : (0 ≤ J) = True := eq_true (by omega)
  have q0_ : (J < (kids.length : Int)) = True := eq_true (by omega)
  have p2 : ((0 : Int) < (kids.length : Int)) = True := eq_true (by omega)
  have p3 : (0 < kids.length) = True := eq_true hk0
  clear hk0
  obtain ⟨a, ha⟩ : ∃ a, a = txtE q0 := ⟨_, rfl⟩
  obtain ⟨b, hb_⟩ : ∃ b, b = txtE q1 := ⟨_, rfl⟩
  rw [← ha] at HT0 hla
  rw [← hb_] at HT1 hlb
  try rw [← ha]
  try rw [← hb_]
  clear ha hb_
  have HSG := Aside0.mk (fun (w : World) (hb : Below W.heap.size W w) => sign_calls op w (hG.below hb))
  have hsg := sign_len op
  obtain ⟨sg, hsg_⟩ : ∃ sg, sg = signF op := ⟨_, rfl⟩
  rw [← hsg_] at HSG hsg
  try rw [← hsg_]
  clear hsg_
  have HS := Sat.start W
  go_enter Tryd.func36, Tryd.ntmps36
  go_upto_region 1 with ((with_reducible refine gate_dst (N := 1) rfl ?_); go_must (refine ev_box HS rfl (N := 1) rfl (cs := #[.int .i64 7, .int .i64 p0, .int .i64 p1, .int .i64 num, .string (bs nm), .int .i64 op, .slice (some ad) kids.length c]) (t := 31) ?hrun ?_); (case hrun => first | (go_simp; done) | (go_simp; rfl)); clear HS; intro gb w HS)
  have cb := HS.cell 0 rfl
  go_upto_region 22 with (fail)
  have hbw := HS.old 1 rfl
  have x0 := cell_below X0.out hbw
  have x1 := cell_below X1.out hbw
  have x2 := cell_below X2.out hbw
  have x3 := cell_below X3.out hbw
  have x4 := cell_below X4.out hbw
  have x5 := cell_below X5.out hbw
  have x6 := cell_below X6.out hbw
  clear hbw
  go_upto_region 23 with (go_at_call 36; refine (HT0.out _ (HS.old 1 rfl)).mono ?_; rintro e w_ ⟨rfl, hb⟩; replace HS := HS.below hb; clear hb)
  clear x0 x1 x2 x3 x4 x5 x6 cb
  have cb := HS.cell 0 rfl
  have hbw := HS.old 1 rfl
  have y0 := cell_below Y0.out hbw
  have y1 := cell_below Y1.out hbw
  have y2 := cell_below Y2.out hbw
  have y3 := cell_below Y3.out hbw
  have y4 := cell_below Y4.out hbw
  have y5 := cell_below Y5.out hbw
  have y6 := cell_below Y6.out hbw
  clear hbw
  go_upto_region 24 with (go_at_call 36; refine (HT1.out _ (HS.old 1 rfl)).mono ?_; rintro e w_ ⟨rfl, hb⟩; replace HS := HS.below hb; clear hb)
  clear y0 y1 y2 y3 y4 y5 y6 cb
  have cb := HS.cell 0 rfl
  go_upto_region 25 with (go_at_call 8; refine (HSG.out _ (HS.old 1 rfl)).mono ?_; rintro e w_ ⟨rfl, rfl⟩)
  go_wp2_with ((with_reducible refine gate_bin (b := .add) (t := 9) (t' := 9) rfl ?_); go_must (refine ev_cat Tryd.underlying9 rfl rfl rfl rfl rfl (by simp only [List.length_append, List.length_cons, List.length_nil]; have := mx_le; omega) ?_))
  go_ret
  exact ⟨ret_bs (by simp), HS.old 1 rfl⟩
set_option maxRecDepth 100000 in
set_option maxHeartbeats 4000000 in
theorem xpr_or (W : World) (hG : GL W) (hcap : kids.length ≤ c) (hC : Kd.C k31 W A kids.length kids) (hk0 : 0 < kids.length) (hts : ts = kids.map txtE) (ih : ∀ e ∈ kids, XprC e) (hok : okL kids) (hsz : nm.length + szL kids ≤ MX) :
    Calls Tryd.prog 36 #[.agg #[.int .i64 8, .int .i64 p0, .int .i64 p1, .int .i64 num, .string (bs nm), .int .i64 op, .slice A kids.length c]] W fun r w' => r = .returned (.string (bs (txtN 8 num nm op ts))) ∧ Below W.heap.size W w' := by
  have hl : ts.length = kids.length := by rw [hts, List.length_map]
  obtain ⟨ad, B0, d0, rfl, X0, X1, X2, X3, X4, X5, X6, l0, g0⟩ := at_T31 hC 0 (by decide) (by omega)
  obtain ⟨J, hJ⟩ : ∃ J : Int, (kids.length : Int) - 1 = J := ⟨_, rfl⟩
  obtain ⟨_, B1, d1, e1, Y0, Y1, Y2, Y3, Y4, Y5, Y6, l1, g1⟩ := at_T31 hC J (by omega) (by omega)
  cases e1
  have hq0 : rd_T31 kids 0 = kids[0] := rdE (i := 0) hk0
  have hq1 : rd_T31 kids J = kids[kids.length - 1] := by
    have h := rdE (kids := kids) (i := kids.length - 1) (by omega)
    rw [show ((kids.length - 1 : Nat) : Int) = J by omega] at h
    exact h
  obtain ⟨q0, h0⟩ : ∃ q, q = rd_T31 kids 0 := ⟨_, rfl⟩
  obtain ⟨q1, h1⟩ : ∃ q, q = rd_T31 kids J := ⟨_, rfl⟩
  rw [← h0] at X0 X1 X2 X3 X4 X5 X6 l0 g0 hq0
  rw [← h1] at Y0 Y1 Y2 Y3 Y4 Y5 Y6 l1 g1 hq1
  change W.cell? ad = _ at X0
  change W.cell? ⟨ad.block, ad.off + 1, none⟩ = _ at X1
  change W.cell? ⟨ad.block, ad.off + 2, none⟩ = _ at X2
  change W.cell? ⟨ad.block, ad.off + 3, none⟩ = _ at X3
  change W.cell? ⟨ad.block, ad.off + 4, none⟩ = _ at X4
  change W.cell? ⟨ad.block, ad.off + 5, none⟩ = _ at X5
  change W.cell? ⟨ad.block, ad.off + 6, none⟩ = _ at X6
  have hm0 : q0 ∈ kids := by rw [hq0]; exact List.getElem_mem _
  have hm1 : q1 ∈ kids := by rw [hq1]; exact List.getElem_mem _
  have hs0 := szL_mem hm0
  have hs1 := szL_mem hm1
  have hla : (txtE q0).length ≤ MX := by have := txtE_len q0 (okL_mem hok hm0); omega
  have hlb : (txtE q1).length ≤ MX := by have := txtE_len q1 (okL_mem hok hm1); omega
  have hnm : nm.length ≤ MX := by omega
  have hkl : kids.length ≤ MX := by have := szL_len kids; omega
  have ta : ts.getD 0 [] = txtE q0 := by rw [hts, List.getD_eq_getElem?_getD, List.getElem?_map, List.getElem?_eq_getElem hk0, hq0]; rfl
  have tb : ts.getD (ts.length - 1) [] = txtE q1 := by rw [hl, hts, List.getD_eq_getElem?_getD, List.getElem?_map, List.getElem?_eq_getElem (show kids.length - 1 < kids.length by omega), hq1]; rfl
  have HT0 := Aside0.mk (fun (w : World) (hb : Below W.heap.size W w) => ih q0 hm0 w B0 d0 (hG.below hb) (okL_mem hok hm0) (by omega) (Kd.C_below g0 hb) l0)
  have HT1 := Aside0.mk (fun (w : World) (hb : Below W.heap.size W w) => ih q1 hm1 w B1 d1 (hG.below hb) (okL_mem hok hm1) (by omega) (Kd.C_below g1 hb) l1)
  replace X0 := Aside0.mk X0
  replace Y0 := Aside0.mk Y0
  replace X1 := Aside0.mk X1
  replace Y1 := Aside0.mk Y1
  replace X2 := Aside0.mk X2
  replace Y2 := Aside0.mk Y2
  replace X3 := Aside0.mk X3
  replace Y3 := Aside0.mk Y3
  replace X4 := Aside0.mk X4
  replace Y4 := Aside0.mk Y4
  replace X5 := Aside0.mk X5
  replace Y5 := Aside0.mk Y5
  replace X6 := Aside0.mk X6
  replace Y6 := Aside0.mk Y6
  have hts0 : ¬ ts.length = 0 := by omega
  have ht : txtN 8 num nm op ts = [40] ++ txtE q0 ++ [32, 124, 124, 32] ++ txtE q1 ++ [41] := by unfold txtN; rw [if_neg (by decide), if_neg (by decide), if_neg (by decide), if_neg (by decide), if_neg hts0, if_neg (by decide), if_neg (by decide), if_neg (by decide), if_pos rfl, ta, tb]
  rw [ht]
  clear ht
  clear ta tb hts ih hok hsz hC hl hq0 hq1 h0 h1 hm0 hm1 hs0 hs1 hts0 l0 l1 g0 g1
  have z0 : ((kids.length : Int) == 0) = false := beq_eq_false_iff_ne.2 (by omega)
  have z1 : (kids.length == 0) = false := beq_eq_false_iff_ne.2 (by omega)
  have w1 : wrap64 J = J := w64 _ (by omega) (by have := mx_le; omega)
  have p0_ : (0 ≤ J) = True := eq_true (by omega)
  have q0_ : (J < (kids.length : Int)) = True := eq_true (by omega)
  have p2 : ((0 : Int) < (kids.length : Int)) = True := eq_true (by omega)
  have p3 : (0 < kids.length) = True := eq_true hk0
  clear hk0
  obtain ⟨a, ha⟩ : ∃ a, a = txtE q0 := ⟨_, rfl⟩
  obtain ⟨b, hb_⟩ : ∃ b, b = txtE q1 := ⟨_, rfl⟩
  rw [← ha] at HT0 hla
  rw [← hb_] at HT1 hlb
  try rw [← ha]
  try rw [← hb_]
  clear ha hb_
  have HSG := Aside0.mk (fun (w : World) (hb : Below W.heap.size W w) => sign_calls op w (hG.below hb))
  have hsg := sign_len op
  obtain ⟨sg, hsg_⟩ : ∃ sg, sg = signF op := ⟨_, rfl⟩
  rw [← hsg_] at HSG hsg
  try rw [← hsg_]
  clear hsg_
  have HS := Sat.start W
  go_enter Tryd.func36, Tryd.ntmps36
  go_upto_region 1 with ((with_reducible refine gate_dst (N := 1) rfl ?_); go_must (refine ev_box HS rfl (N := 1) rfl (cs := #[.int .i64 8, .int .i64 p0, .int .i64 p1, .int .i64 num, .string (bs nm), .int .i64 op, .slice (some ad) kids.length c]) (t := 31) ?hrun ?_); (case hrun => first | (go_simp; done) | (go_simp; rfl)); clear HS; intro gb w HS)
  have cb := HS.cell 0 rfl
  go_upto_region 22 with (fail)
  have hbw := HS.old 1 rfl
  have x0 := cell_below X0.out hbw
  have x1 := cell_below X1.out hbw
  have x2 := cell_below X2.out hbw
  have x3 := cell_below X3.out hbw
  have x4 := cell_below X4.out hbw
  have x5 := cell_below X5.out hbw
  have x6 := cell_below X6.out hbw
  clear hbw
  go_upto_region 23 with (go_at_call 36; refine (HT0.out _ (HS.old 1 rfl)).mono ?_; rintro e w_ ⟨rfl, hb⟩; replace HS := HS.below hb; clear hb)
  clear x0 x1 x2 x3 x4 x5 x6 cb
  have cb := HS.cell 0 rfl
  have hbw := HS.old 1 rfl
  have y0 := cell_below Y0.out hbw
  have y1 := cell_below Y1.out hbw
  have y2 := cell_below Y2.out hbw
  have y3 := cell_below Y3.out hbw
  have y4 := cell_below Y4.out hbw
  have y5 := cell_below Y5.out hbw
  have y6 := cell_below Y6.out hbw
  clear hbw
  go_upto_region 24 with (go_at_call 36; refine (HT1.out _ (HS.old 1 rfl)).mono ?_; rintro e w_ ⟨rfl, hb⟩; replace HS := HS.below hb; clear hb)
  clear y0 y1 y2 y3 y4 y5 y6 cb
  have cb := HS.cell 0 rfl
  go_upto_region 25 with (go_at_call 8; refine (HSG.out _ (HS.old 1 rfl)).mono ?_; rintro e w_ ⟨rfl, rfl⟩)
  go_wp2_with ((with_reducible refine gate_bin (b := .add) (t := 9) (t' := 9) rfl ?_); go_must (refine ev_cat Tryd.underlying9 rfl rfl rfl rfl rfl (by simp only [List.length_append, List.length_cons, List.length_nil]; have := mx_le; omega) ?_))
  go_ret
  exact ⟨ret_bs (by simp), HS.old 1 rfl⟩
set_option maxRecDepth 100000 in
set_option maxHeartbeats 4000000 in
theorem xpr_both (W : World) (hG : GL W) (hcap : kids.length ≤ c) (hC : Kd.C k31 W A kids.length kids) (hk0 : 0 < kids.length) (hts : ts = kids.map txtE) (ih : ∀ e ∈ kids, XprC e) (hok : okL kids) (hsz : nm.length + szL kids ≤ MX) (k1 : (K == 1) = false) (k2 : (K == 2) = false) (k3 : (K == 3) = false) (k5 : (K == 5) = false) (k4 : (K == 4) = false) (k9 : (K == 9) = false) (k7 : (K == 7) = false) (k8 : (K == 8) = false) :
    Calls Tryd.prog 36 #[.agg #[.int .i64 K, .int .i64 p0, .int .i64 p1, .int .i64 num, .string (bs nm), .int .i64 op, .slice A kids.length c]] W fun r w' => r = .returned (.string (bs (txtN K num nm op ts))) ∧ Below W.heap.size W w' := by
  have hl : ts.length = kids.length := by rw [hts, List.length_map]
  obtain ⟨ad, B0, d0, rfl, X0, X1, X2, X3, X4, X5, X6, l0, g0⟩ := at_T31 hC 0 (by decide) (by omega)
  obtain ⟨J, hJ⟩ : ∃ J : Int, (kids.length : Int) - 1 = J := ⟨_, rfl⟩
  obtain ⟨_, B1, d1, e1, Y0, Y1, Y2, Y3, Y4, Y5, Y6, l1, g1⟩ := at_T31 hC J (by omega) (by omega)
  cases e1
  have hq0 : rd_T31 kids 0 = kids[0] := rdE (i := 0) hk0
  have hq1 : rd_T31 kids J = kids[kids.length - 1] := by
    have h := rdE (kids := kids) (i := kids.length - 1) (by omega)
    rw [show ((kids.length - 1 : Nat) : Int) = J by omega] at h
    exact h
  obtain ⟨q0, h0⟩ : ∃ q, q = rd_T31 kids 0 := ⟨_, rfl⟩
  obtain ⟨q1, h1⟩ : ∃ q, q = rd_T31 kids J := ⟨_, rfl⟩
  rw [← h0] at X0 X1 X2 X3 X4 X5 X6 l0 g0 hq0
  rw [← h1] at Y0 Y1 Y2 Y3 Y4 Y5 Y6 l1 g1 hq1
  change W.cell? ad = _ at X0
  change W.cell? ⟨ad.block, ad.off + 1, none⟩ = _ at X1
  change W.cell? ⟨ad.block, ad.off + 2, none⟩ = _ at X2
  change W.cell? ⟨ad.block, ad.off + 3, none⟩ = _ at X3
  change W.cell? ⟨ad.block, ad.off + 4, none⟩ = _ at X4
  change W.cell? ⟨ad.block, ad.off + 5, none⟩ = _ at X5
  change W.cell? ⟨ad.block, ad.off + 6, none⟩ = _ at X6
  have hm0 : q0 ∈ kids := by rw [hq0]; exact List.getElem_mem _
  have hm1 : q1 ∈ kids := by rw [hq1]; exact List.getElem_mem _
  have hs0 := szL_mem hm0
  have hs1 := szL_mem hm1
  have hla : (txtE q0).length ≤ MX := by have := txtE_len q0 (okL_mem hok hm0); omega
  have hlb : (txtE q1).length ≤ MX := by have := txtE_len q1 (okL_mem hok hm1); omega
  have hnm : nm.length ≤ MX := by omega
  have hkl : kids.length ≤ MX := by have := szL_len kids; omega
  have ta : ts.getD 0 [] = txtE q0 := by rw [hts, List.getD_eq_getElem?_getD, List.getElem?_map, List.getElem?_eq_getElem hk0, hq0]; rfl
  have tb : ts.getD (ts.length - 1) [] = txtE q1 := by rw [hl, hts, List.getD_eq_getElem?_getD, List.getElem?_map, List.getElem?_eq_getElem (show kids.length - 1 < kids.length by omega), hq1]; rfl
  have HT0 := Aside0.mk (fun (w : World) (hb : Below W.heap.size W w) => ih q0 hm0 w B0 d0 (hG.below hb) (okL_mem hok hm0) (by omega) (Kd.C_below g0 hb) l0)
  have HT1 := Aside0.mk (fun (w : World) (hb : Below W.heap.size W w) => ih q1 hm1 w B1 d1 (hG.below hb) (okL_mem hok hm1) (by omega) (Kd.C_below g1 hb) l1)
  replace X0 := Aside0.mk X0
  replace Y0 := Aside0.mk Y0
  replace X1 := Aside0.mk X1
  replace Y1 := Aside0.mk Y1
  replace X2 := Aside0.mk X2
  replace Y2 := Aside0.mk Y2
  replace X3 := Aside0.mk X3
  replace Y3 := Aside0.mk Y3
  replace X4 := Aside0.mk X4
  replace Y4 := Aside0.mk Y4
  replace X5 := Aside0.mk X5
  replace Y5 := Aside0.mk Y5
  replace X6 := Aside0.mk X6
  replace Y6 := Aside0.mk Y6
  have hts0 : ¬ ts.length = 0 := by omega
  have n1 : ¬ K = 1 := by simpa using k1
  have n2 : ¬ K = 2 := by simpa using k2
  have n3 : ¬ K = 3 := by simpa using k3
  have n5 : ¬ K = 5 := by simpa using k5
  have n4 : ¬ K = 4 := by simpa using k4
  have n9 : ¬ K = 9 := by simpa using k9
  have n7 : ¬ K = 7 := by simpa using k7
  have n8 : ¬ K = 8 := by simpa using k8
  have ht : txtN K num nm op ts = [40] ++ txtE q0 ++ [32] ++ signF op ++ [32] ++ txtE q1 ++ [41] := by unfold txtN; rw [if_neg n1, if_neg n2, if_neg n3, if_neg n5, if_neg hts0, if_neg n4, if_neg n9, if_neg n7, if_neg n8, ta, tb]
  rw [ht]
  clear ht n1 n2 n3 n4 n5 n7 n8 n9
  clear ta tb hts ih hok hsz hC hl hq0 hq1 h0 h1 hm0 hm1 hs0 hs1 hts0 l0 l1 g0 g1
  have z0 : ((kids.length : Int) == 0) = false := beq_eq_false_iff_ne.2 (by omega)
  have z1 : (kids.length == 0) = false := beq_eq_false_iff_ne.2 (by omega)
  have w1 : wrap64 J = J := w64 _ (by omega) (by have := mx_le; omega)
  have p0_ : (0 ≤ J) = True := eq_true (by omega)
  have q0_ : (J < (kids.length : Int)) = True := eq_true (by omega)
  have p2 : ((0 : Int) < (kids.length : Int)) = True := eq_true (by omega)
  have p3 : (0 < kids.length) = True := eq_true hk0
  clear hk0
  obtain ⟨a, ha⟩ : ∃ a, a = txtE q0 := ⟨_, rfl⟩
  obtain ⟨b, hb_⟩ : ∃ b, b = txtE q1 := ⟨_, rfl⟩
  rw [← ha] at HT0 hla
  rw [← hb_] at HT1 hlb
  try rw [← ha]
  try rw [← hb_]
  clear ha hb_
  have HSG := Aside0.mk (fun (w : World) (hb : Below W.heap.size W w) => sign_calls op w (hG.below hb))
  have hsg := sign_len op
  obtain ⟨sg, hsg_⟩ : ∃ sg, sg = signF op := ⟨_, rfl⟩
  rw [← hsg_] at HSG hsg
  try rw [← hsg_]
  clear hsg_
  have HS := Sat.start W
  go_enter Tryd.func36, Tryd.ntmps36
  go_upto_region 1 with ((with_reducible refine gate_dst (N := 1) rfl ?_); go_must (refine ev_box HS rfl (N := 1) rfl (cs := #[.int .i64 K, .int .i64 p0, .int .i64 p1, .int .i64 num, .string (bs nm), .int .i64 op, .slice (some ad) kids.length c]) (t := 31) ?hrun ?_); (case hrun => first | (go_simp; done) | (go_simp; rfl)); clear HS; intro gb w HS)
  have cb := HS.cell 0 rfl
  go_upto_region 22 with (fail)
  have hbw := HS.old 1 rfl
  have x0 := cell_below X0.out hbw
  have x1 := cell_below X1.out hbw
  have x2 := cell_below X2.out hbw
  have x3 := cell_below X3.out hbw
  have x4 := cell_below X4.out hbw
  have x5 := cell_below X5.out hbw
  have x6 := cell_below X6.out hbw
  clear hbw
  go_upto_region 23 with (go_at_call 36; refine (HT0.out _ (HS.old 1 rfl)).mono ?_; rintro e w_ ⟨rfl, hb⟩; replace HS := HS.below hb; clear hb)
  clear x0 x1 x2 x3 x4 x5 x6 cb
  have cb := HS.cell 0 rfl
  have hbw := HS.old 1 rfl
  have y0 := cell_below Y0.out hbw
  have y1 := cell_below Y1.out hbw
  have y2 := cell_below Y2.out hbw
  have y3 := cell_below Y3.out hbw
  have y4 := cell_below Y4.out hbw
  have y5 := cell_below Y5.out hbw
  have y6 := cell_below Y6.out hbw
  clear hbw
  go_upto_region 24 with (go_at_call 36; refine (HT1.out _ (HS.old 1 rfl)).mono ?_; rintro e w_ ⟨rfl, hb⟩; replace HS := HS.below hb; clear hb)
  clear y0 y1 y2 y3 y4 y5 y6 cb
  have cb := HS.cell 0 rfl
  go_upto_region 25 with (go_at_call 8; refine (HSG.out _ (HS.old 1 rfl)).mono ?_; rintro e w_ ⟨rfl, rfl⟩)
  go_wp2_with ((with_reducible refine gate_bin (b := .add) (t := 9) (t' := 9) rfl ?_); go_must (refine ev_cat Tryd.underlying9 rfl rfl rfl rfl rfl (by simp only [List.length_append, List.length_cons, List.length_nil]; have := mx_le; omega) ?_))
  go_ret
  exact ⟨ret_bs (by simp), HS.old 1 rfl⟩
end
/-- The law's own text of an expression. -/
theorem xpr_calls : ∀ e : S31, XprC e
  | ⟨k, ⟨p0, p1⟩, num, name, op, kids⟩ => by
    have ih : ∀ e ∈ kids, XprC e := fun e he => xpr_calls e
    intro W A c hG hok hsz hC hcap
    dsimp only at hC hcap ⊢
    rw [okE] at hok
    rw [szE] at hsz
    obtain ⟨nm, rfl⟩ : ∃ nm, name = bs nm := ⟨_, rfl⟩
    rw [txtE_node]
    change _ + nm.length + _ ≤ _ at hsz
    change Calls _ _ _ _ fun r w' => r = .returned (.string (bs (txtN k num nm op (kids.map txtE)))) ∧ _
    obtain ⟨ts, hts⟩ : ∃ ts, ts = kids.map txtE := ⟨_, rfl⟩
    rw [← hts]
    by_cases h1 : k = 1
    · subst h1; exact xpr_num W hG hok.1
    by_cases h2 : k = 2
    · subst h2
      by_cases hn : num = 0
      · subst hn; exact xpr_no W hG rfl
      · exact xpr_yes W hG (by simpa using hn)
    by_cases h3 : k = 3
    · subst h3; exact xpr_var W hG
    by_cases h5 : k = 5
    · subst h5; exact xpr_call W hG hC hcap hts ih hok.2 (by omega)
    have b1 : (k == 1) = false := by simpa using h1
    have b2 : (k == 2) = false := by simpa using h2
    have b3 : (k == 3) = false := by simpa using h3
    have b5 : (k == 5) = false := by simpa using h5
    by_cases h0 : kids.length = 0
    · exact xpr_none W hG b1 b2 b3 b5 h0 (by rw [hts, List.length_map]; exact h0)
    have h0' : 0 < kids.length := by omega
    by_cases h4 : k = 4
    · subst h4; exact xpr_index W hG hcap hC h0' hts ih hok.2 (by omega)
    by_cases h9 : k = 9
    · subst h9; exact xpr_not W hG hcap hC h0' hts ih hok.2 (by omega)
    by_cases h7 : k = 7
    · subst h7; exact xpr_and W hG hcap hC h0' hts ih hok.2 (by omega)
    by_cases h8 : k = 8
    · subst h8; exact xpr_or W hG hcap hC h0' hts ih hok.2 (by omega)
    exact xpr_both W hG hcap hC h0' hts ih hok.2 (by omega) b1 b2 b3 b5 (by simpa using h4) (by simpa using h9) (by simpa using h7) (by simpa using h8)
termination_by e => SizeOf.sizeOf e
decreasing_by
  have := List.sizeOf_lt_of_mem he
  simp only [S31.mk.sizeOf_spec]
  omega
end Go.Proofs.YtaammdmaldodaaaDoor.B
