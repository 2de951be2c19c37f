/- AstLines: a statement has as many lines as it should, and its tabs. -/
import Derived.Test.YtaammdmaldodaaaDoorAstPlain
import Derived.Test.YtaammdmaldodaaaDoorAstCount
namespace Go.Proofs.YtaammdmaldodaaaDoor.B
open Go.RowKit Go.Proofs.YtaammdmaldodaaaDoor.Mine Go.Proofs.YtaammdmaldodaaaDoor.Sep Go.Proofs.YtaammdmaldodaaaDoorW.PrintWords Go.Proofs.YtaammdmaldodaaaDoorW.PrintLast Go.Proofs.YtaammdmaldodaaaDoorW.PrintMore
set_option linter.unusedVariables false
set_option linter.unusedSimpArgs false
theorem scan_tab {d tb n : Nat} {T : List UInt8} {i : Nat} (h : i < T.length) (hc : T[i] = 9) (r : Option (Bool × Nat × Nat)) (hs : scanF d (T.drop i) true tb n = r) : scanF d (T.drop (i + 1)) true (tb + 1) n = r := by
  rw [List.drop_eq_getElem_cons h, scanF, if_pos ⟨rfl, hc⟩] at hs
  exact hs
theorem scan_few {d tb n : Nat} {T : List UInt8} {i : Nat} (h : i < T.length) (hc : T[i] ≠ 9) {r : Bool × Nat × Nat} (hs : scanF d (T.drop i) true tb n = some r) : ¬ tb < d := by
  intro ht
  rw [List.drop_eq_getElem_cons h, scanF, if_neg (fun e => hc e.2), if_pos ⟨rfl, ht⟩] at hs
  cases hs
theorem scan_nl {d tb n : Nat} {st : Bool} {T : List UInt8} {i : Nat} (h : i < T.length) (hc : T[i] = 10) (ht : ¬ (st = true ∧ tb < d)) (r : Option (Bool × Nat × Nat)) (hs : scanF d (T.drop i) st tb n = r) : scanF d (T.drop (i + 1)) true 0 (n + 1) = r := by
  rw [List.drop_eq_getElem_cons h, scanF, if_neg (by rw [hc]; simp), if_neg ht, if_pos hc] at hs
  exact hs
theorem scan_in {d tb n : Nat} {st : Bool} {T : List UInt8} {i : Nat} (h : i < T.length) (hc : T[i] ≠ 10) (h9 : ¬ (st = true ∧ T[i] = 9)) (ht : ¬ (st = true ∧ tb < d)) (r : Option (Bool × Nat × Nat)) (hs : scanF d (T.drop i) st tb n = r) : scanF d (T.drop (i + 1)) false tb n = r := by
  rw [List.drop_eq_getElem_cons h, scanF, if_neg h9, if_neg ht, if_neg hc] at hs
  exact hs
theorem cs_take {l : List S38} {i : Nat} (h : i < l.length) : countSs (l.take (i + 1)) = countSs (l.take i) + countS l[i] := by
  have : ∀ a b : List S38, countSs (a ++ b) = countSs a + countSs b := by
    intro a b
    induction a with
    | nil => rw [List.nil_append, countSs, Nat.zero_add]
    | cons x a ih => rw [List.cons_append, countSs, countSs, ih, Nat.add_assoc]
  rw [List.take_succ_eq_append_getElem h, this, countSs, countSs, Nat.add_zero]
theorem cs_le (l : List S38) (i : Nat) : countSs (l.take i) ≤ countSs l := by
  induction l generalizing i with
  | nil => simp
  | cons x l ih =>
    cases i with
    | zero => rw [List.take_zero, countSs]; omega
    | succ i => rw [List.take_succ_cons, countSs, countSs]; have := ih i; omega
theorem count_parts {s : S38} (h : countS s ≤ MX) : (s.f0 = 4 ∨ s.f0 = 5 → countSs s.f4 ≤ MX) ∧ (s.f0 = 4 → 0 < s.f5.length → countSs s.f5 ≤ MX) := by
  obtain ⟨k, p, nm, es, th, el⟩ := s
  rw [countS] at h
  refine ⟨fun h1 => ?_, fun h1 h2 => ?_⟩
  · dsimp only at h1 ⊢; rw [if_pos h1] at h; omega
  · dsimp only at h1 h2 ⊢; rw [if_pos (show k = 4 ∧ 0 < el.length from ⟨h1, h2⟩)] at h; omega
theorem countS_eq (s : S38) : countS s = (if s.f0 = 4 ∨ s.f0 = 5 then 2 + countSs s.f4 else 1) + (if s.f0 = 4 ∧ 0 < s.f5.length then 1 + countSs s.f5 else 0) := by cases s; rw [countS]
theorem w_in {j n m : Nat} (h : j < n) (hm : m ≤ j) (hn : n ≤ 9000000000000000000) : wrap64 ((m : Int) + 1) = (m : Int) + 1 := w64 _ (by omega) (by omega)
theorem bnext {L k1 j n tb n' tb' : Nat} (hj : j < L) (h : j ≤ L ∧ L + 1 ≤ k1 + 1 + j ∧ n ≤ j ∧ tb ≤ j) (hn : n' ≤ n + 1) (ht : tb' ≤ tb + 1) : j + 1 ≤ L ∧ L + 1 ≤ k1 + (j + 1) ∧ n' ≤ j + 1 ∧ tb' ≤ j + 1 := by omega
theorem inext {L k1 j : Nat} (hj : j < L) (h : j ≤ L ∧ L + 1 ≤ k1 + 1 + j) : j + 1 ≤ L ∧ L + 1 ≤ k1 + (j + 1) := by omega
theorem i_in {L : Nat} {I : Int} {j : Nat} (hj : j < L) (hI : (j : Int) = I) (hL : L ≤ 9223372036854775807) : wrap64 (I + 1) = I + 1 := w64 _ (by omega) (by omega)
theorem ge_of_not {a b : Int} (h : ¬ a < b) : b ≤ a := by omega
set_option maxRecDepth 100000 in
set_option maxHeartbeats 8000000 in
theorem lines_in (l : List S38) (A0 : Option Addr) (c0 : Nat) (dn : Nat) (D deep : Int) (W : World) (hG : GL W) (hD : (dn : Int) = D) (hB : Go.bits .and .i64 deep 7 = D) (hN : l.length ≤ 9223372036854775807)
    (HC : Aside0 (Kd.C k38 W A0 l.length l))
    (HFW : Aside0 (∀ w : World, Below W.heap.size W w → Calls Tryd.prog 14 #[.slice A0 l.length c0, .int .i64 0] w fun r w' => r = .returned (.bool true) ∧ Below w.heap.size w w'))
    (HP : Aside0 (∀ s ∈ l, ∀ (w : World), Below W.heap.size W w → ∀ (B4 : Option Addr) (d4 : Nat) (B5 : Option Addr) (d5 : Nat) (B6 : Option Addr) (d6 : Nat), Kd.C k31 W B4 s.f3.length s.f3 → s.f3.length ≤ d4 → Kd.C k38 W B5 s.f4.length s.f4 → s.f4.length ≤ d5 → Kd.C k38 W B6 s.f5.length s.f5 → s.f5.length ≤ d6 →
      Calls Tryd.prog 15 #[.agg #[.int .i64 s.f0, .int .i64 s.f1.f0, .int .i64 s.f1.f1, .string s.f2, .slice B4 s.f3.length d4, .slice B5 s.f4.length d5, .slice B6 s.f5.length d6]] w fun r w' => r = .returned (.bool (plainS s)) ∧ Below w.heap.size w w'))
    (HT : Aside0 (∀ s ∈ l, ∀ (w : World), Below W.heap.size W w → ∀ (B4 : Option Addr) (d4 : Nat) (B5 : Option Addr) (d5 : Nat) (B6 : Option Addr) (d6 : Nat), Kd.C k31 W B4 s.f3.length s.f3 → s.f3.length ≤ d4 → Kd.C k38 W B5 s.f4.length s.f4 → s.f4.length ≤ d5 → Kd.C k38 W B6 s.f5.length s.f5 → s.f5.length ≤ d6 →
      Calls Tryd.prog 16 #[.agg #[.int .i64 s.f0, .int .i64 s.f1.f0, .int .i64 s.f1.f1, .string s.f2, .slice B4 s.f3.length d4, .slice B5 s.f4.length d5, .slice B6 s.f5.length d6], .int .i64 D] w fun r w' => r = .returned (.string (bs (txtS dn s))) ∧ Below w.heap.size w w'))
    (HTL : Aside0 (∀ s ∈ l, (txtS dn s).length ≤ 9000000000000000000)) (HCN : Aside0 (∀ s ∈ l, countS s ≤ MX)) :
    Calls Tryd.prog 5 #[.slice A0 l.length c0, .int .i64 deep] W fun e W' => e = .returned (.bool true) ∧ Below W.heap.size W W' := by
  have HS := Sat.start W
  have HN := Aside0.mk hN
  have HG := Aside0.mk hG
  have HD := Aside0.mk hD
  clear hN hD hG
  go_enter Tryd.func5, Tryd.ntmps5
  go_upto_region 3 with (go_at_call 7; refine (head_calls (fun w h => HG.out.below (h.old 0 rfl)) HS).mono ?_; rintro e w_ ⟨rfl, HS_⟩; clear HS; have HS := HS_; clear HS_)
  go_upto_region 5 with (go_at_call 14; refine (HFW.out _ (HS.old 0 rfl)).mono ?_; rintro r w_ ⟨rfl, hb⟩; replace HS := HS.below hb; clear hb)
  go_upto_region 6 with (fail)
  go_wp2
  go_loopg [26] (l.length + 1) (fun kq v26 w' => ∃ (i : Nat), v26 = .int .i64 (i : Int) ∧ Aside0 (i ≤ l.length ∧ l.length + 1 ≤ kq + i) ∧ Aside0 (Sat W w' [old W]))
  case atStart => exact ⟨0, rfl, ⟨by omega, by omega⟩, ⟨HS⟩⟩
  case round =>
    clear HS
    obtain ⟨i, rfl, HI, HS'⟩ := hrel
    have HS := HS'.out
    clear HS'
    cases gk with
    | zero => have := HI.out; omega
    | succ k0 =>
      by_cases hk : i < l.length
      · have HNq := HN
        obtain ⟨Iq, hI_⟩ : ∃ I : Int, (i : Int) = I := ⟨_, rfl⟩
        have pIq : 0 ≤ Iq := by omega
        have qIq : Iq < (l.length : Int) := by omega
        have cIq : decide (Iq < (l.length : Int)) = true := decide_eq_true qIq
        have hbw := HS.old 0 rfl
        obtain ⟨adq, B4, d4, B5, d5, B6, d6, rfl, x0, x1, x2, x3, x4, x5, x6, l4, g4, l5, g5, l6, g6⟩ := at_T38 HC.out Iq pIq qIq
        replace x0 := cell_below x0 hbw
        replace x1 := cell_below x1 hbw
        replace x2 := cell_below x2 hbw
        replace x3 := cell_below x3 hbw
        replace x4 := cell_below x4 hbw
        replace x5 := cell_below x5 hbw
        replace x6 := cell_below x6 hbw
        clear hbw
        have hq : rd_T38 l Iq = l[i] := by rw [← hI_]; exact rdS hk
        obtain ⟨q, hqq⟩ : ∃ z_, z_ = rd_T38 l Iq := ⟨_, rfl⟩
        rw [← hqq] at x0 x1 x2 x3 x4 x5 x6 l4 g4 l5 g5 l6 g6 hq
        have hmem : q ∈ l := by rw [hq]; exact List.getElem_mem hk
        have HPC := Aside0.mk (fun (w : World) (hb : Below W.heap.size W w) => HP.out q hmem w hb B4 d4 B5 d5 B6 d6 g4 l4 g5 l5 g6 l6)
        have HTC := Aside0.mk (fun (w : World) (hb : Below W.heap.size W w) => HT.out q hmem w hb B4 d4 B5 d5 B6 d6 g4 l4 g5 l5 g6 l6)
        have HTQ := Aside0.mk (HTL.out q hmem)
        have HCQ := Aside0.mk (HCN.out q hmem)
        have hwq : wrap64 (Iq + 1) = Iq + 1 := i_in hk hI_ HNq.out
        have HQq := Aside0.mk (show ∃ h : i < l.length, q = l[i] from ⟨hk, hq⟩)
        have HIIq := Aside0.mk (show (i : Int) = Iq ∧ i < l.length from ⟨hI_, hk⟩)
        rw [hI_]
        have hql4q : q.f3.length ≤ 9223372036854775807 := g4.2.1
        have hql5q : q.f4.length ≤ 9223372036854775807 := g5.2.1
        have hql6q : q.f5.length ≤ 9223372036854775807 := g6.2.1
        have HG4q := Aside0.mk (show _ ∧ _ from ⟨g4, l4⟩)
        have HG5q := Aside0.mk (show _ ∧ _ from ⟨g5, l5⟩)
        have HG6q := Aside0.mk (show _ ∧ _ from ⟨g6, l6⟩)
        clear hq hqq hmem hI_ hk g4 g5 g6 l4 l5 l6
        have HWq := Aside0.mk hwq
        clear hwq
        have r1q := eq_true pIq
        have r2q := eq_true qIq
        go_upto_region 9 with (first | ((with_reducible refine gate_dst (N := 6) rfl ?_); go_must (refine ev_box HS rfl (N := 6) rfl (cs := #[.int .i64 0, .int .i64 0, .int .i64 0, .string ⟨#[]⟩, .slice none 0 0, .slice none 0 0, .slice none 0 0]) (t := 38) ?hrun ?_); (case hrun => first | (go_simp; done) | (go_simp; rfl)); clear HS; intro gq w HS) | ((with_reducible refine gate_store (t := 38) (p := 6) rfl ?_); go_must (refine ev_store HS 0 rfl rfl 38 (.tmp 6) (.tmp 29) rfl rfl rfl [.int .i64 q.f0, .int .i64 q.f1.f0, .int .i64 q.f1.f1, .string q.f2, .slice B4 q.f3.length d4, .slice B5 q.f4.length d5, .slice B6 q.f5.length d6] ?hx (by kernel_rfl) (by rfl) ?h1 ?_); (case hx => first | rfl | (go_simp; done)); (case h1 => simp [Value.oneCell']); clear HS; intro w HS))
        clear x0 x1 x2 x3 x4 x5 x6 r1q r2q pIq qIq
        cases hcl : plainS q with
        | false =>
          rw [hcl] at HPC
          have hwq := HWq.out
          go_wp2_with (first | ((with_reducible refine gate_dst (N := 30) rfl ?_); ((with_reducible refine gate_load (ty := 38) (p := 6) rfl ?_); go_must (refine ev_load HS 0 rfl rfl 38 (.tmp 6) rfl (N := 30) rfl rfl _ Tryd.underlying38 rfl (by kernel_rfl) ?_))) | (go_at_call 15; refine (HPC.out _ (HS.old 1 rfl)).mono ?_; rintro r w_ ⟨rfl, hb⟩; replace HS := HS.below hb; clear hb))
          go_roundg k0
          case measure => exact Nat.lt_succ_self _
          case rel =>
            have h1 := HIIq.out
            exact ⟨i + 1, by rw [hwq, ← h1.1]; rfl, ⟨inext HIIq.out.2 HI.out⟩, ⟨HS.tail⟩⟩
        | true =>
          rw [hcl] at HPC
          have HSC := Aside0.mk (scan_plain dn q hcl)
          clear hcl
          go_upto_region 10 with (first | ((with_reducible refine gate_dst (N := 30) rfl ?_); ((with_reducible refine gate_load (ty := 38) (p := 6) rfl ?_); go_must (refine ev_load HS 0 rfl rfl 38 (.tmp 6) rfl (N := 30) rfl rfl _ Tryd.underlying38 rfl (by kernel_rfl) ?_))) | (go_at_call 15; refine (HPC.out _ (HS.old 1 rfl)).mono ?_; rintro r w_ ⟨rfl, hb⟩; replace HS := HS.below hb; clear hb))
          obtain ⟨T, hT⟩ : ∃ T, T = txtS dn q := ⟨_, rfl⟩
          rw [← hT] at HTC HTQ HSC
          clear hT
          go_upto_region 11 with (first | ((with_reducible refine gate_dst (N := 33) rfl ?_); ((with_reducible refine gate_load (ty := 38) (p := 6) rfl ?_); go_must (refine ev_load HS 0 rfl rfl 38 (.tmp 6) rfl (N := 33) rfl rfl _ Tryd.underlying38 rfl (by kernel_rfl) ?_))) | (go_at_call 16; refine (HTC.out _ (HS.old 1 rfl)).mono ?_; rintro r w_ ⟨rfl, hb⟩; replace HS := HS.below hb; clear hb))
          go_wp2
          go_loopg [8, 9, 10, 11] (T.length + 1) (fun kq v8 v9 v10 v11 w' => ∃ (j n tb : Nat) (st : Bool), v8 = .int .i64 (n : Int) ∧ v9 = .bool st ∧ v10 = .int .i64 (tb : Int) ∧ v11 = .int .i64 (j : Int) ∧ Aside0 (j ≤ T.length ∧ T.length + 1 ≤ kq + j ∧ n ≤ j ∧ tb ≤ j) ∧ Aside0 (scanF dn (T.drop j) st tb n = some (true, 0, countS q)) ∧
              Aside0 (Sat W w' [blk gq 38 #[.int .i64 q.f0, .int .i64 q.f1.f0, .int .i64 q.f1.f1, .string q.f2, .slice B4 q.f3.length d4, .slice B5 q.f4.length d5, .slice B6 q.f5.length d6], old W]))
          case atStart => exact ⟨0, 0, 0, true, rfl, rfl, rfl, rfl, ⟨by omega, by omega, by omega, by omega⟩, ⟨by rw [List.drop_zero]; exact HSC.out⟩, ⟨HS⟩⟩
          case round =>
            clear HS
            obtain ⟨j, n, tb, st, rfl, rfl, rfl, rfl, HJ, HSF, HS'⟩ := hrel
            have HS := HS'.out
            clear HS'
            cases gk with
            | zero => have := HJ.out; omega
            | succ k1 =>
              have hsz := bs_size T
              by_cases hj : j < T.length
              · have c1_ : decide ((j : Int) < (T.length : Int)) = true := decide_eq_true (by omega)
                have c2_ : decide (j < T.length) = true := decide_eq_true hj
                have h0 : (0 : Int) ≤ (j : Int) := by omega
                have hsz2 : (j : Int) < ((bs T).size : Int) := by rw [hsz]; omega
                have hbt : j < (bs T).size := by omega
                have hwj : wrap64 ((j : Int) + 1) = (j : Int) + 1 := w_in hj (Nat.le_refl _) HTQ.out
                have hwn : wrap64 ((n : Int) + 1) = (n : Int) + 1 := w_in hj HJ.out.2.2.1 HTQ.out
                have hwt : wrap64 ((tb : Int) + 1) = (tb : Int) + 1 := w_in hj HJ.out.2.2.2 HTQ.out
                cases st with
                | true =>
                  by_cases b9 : ((((bs T)[j]'hbt).toNat : Int) == 9) = true
                  · have h9 : T[j] = 9 := u8_eq (x := T[j]) (y := 9) b9
                    go_wp2
                    go_roundg k1
                    case measure => exact Nat.lt_succ_self _
                    case rel =>
                      refine ⟨j + 1, n, tb + 1, true, rfl, rfl, by first | rfl | (rw [hwt]; rfl), by first | rfl | (rw [hwj]; rfl), ⟨bnext hj HJ.out (Nat.le_succ _) (Nat.le_refl _)⟩, ⟨?_⟩, ⟨HS⟩⟩
                      exact scan_tab hj h9 _ HSF.out
                  · have b9' : ((((bs T)[j]'hbt).toNat : Int) == 9) = false := by simpa using b9
                    have h9 : T[j] ≠ 9 := by have := u8_ne (x := T[j]) (y := 9) b9'; simpa using this
                    have hfew := scan_few hj h9 HSF.out
                    have hfi : ¬ ((tb : Int) < D) := by have := HD.out; omega
                    have hfb : decide ((tb : Int) < D) = false := decide_eq_false hfi
                    by_cases b10 : ((((bs T)[j]'hbt).toNat : Int) == 10) = true
                    · have h10 : T[j] = 10 := u8_eq (x := T[j]) (y := 10) b10
                      go_wp2
                      go_roundg k1
                      case measure => exact Nat.lt_succ_self _
                      case rel =>
                        refine ⟨j + 1, n + 1, 0, true, by first | rfl | (rw [hwn]; rfl), rfl, rfl, by first | rfl | (rw [hwj]; rfl), ⟨bnext hj HJ.out (Nat.le_refl _) (Nat.zero_le _)⟩, ⟨?_⟩, ⟨HS⟩⟩
                        exact scan_nl hj h10 (fun e => hfew e.2) _ HSF.out
                    · have b10' : ((((bs T)[j]'hbt).toNat : Int) == 10) = false := by simpa using b10
                      have h10 : T[j] ≠ 10 := by have := u8_ne (x := T[j]) (y := 10) b10'; simpa using this
                      go_wp2
                      go_roundg k1
                      case measure => exact Nat.lt_succ_self _
                      case rel =>
                        refine ⟨j + 1, n, tb, false, rfl, rfl, rfl, by first | rfl | (rw [hwj]; rfl), ⟨bnext hj HJ.out (Nat.le_succ _) (Nat.le_succ _)⟩, ⟨?_⟩, ⟨HS⟩⟩
                        exact scan_in hj h10 (fun e => h9 e.2) (fun e => hfew e.2) _ HSF.out
                | false =>
                  by_cases b10 : ((((bs T)[j]'hbt).toNat : Int) == 10) = true
                  · have h10 : T[j] = 10 := u8_eq (x := T[j]) (y := 10) b10
                    go_wp2
                    go_roundg k1
                    case measure => exact Nat.lt_succ_self _
                    case rel =>
                      refine ⟨j + 1, n + 1, 0, true, by first | rfl | (rw [hwn]; rfl), rfl, rfl, by first | rfl | (rw [hwj]; rfl), ⟨bnext hj HJ.out (Nat.le_refl _) (Nat.zero_le _)⟩, ⟨?_⟩, ⟨HS⟩⟩
                      exact scan_nl hj h10 (fun e => by cases e.1) _ HSF.out
                  · have b10' : ((((bs T)[j]'hbt).toNat : Int) == 10) = false := by simpa using b10
                    have h10 : T[j] ≠ 10 := by have := u8_ne (x := T[j]) (y := 10) b10'; simpa using this
                    go_wp2
                    go_roundg k1
                    case measure => exact Nat.lt_succ_self _
                    case rel =>
                      refine ⟨j + 1, n, tb, false, rfl, rfl, rfl, by first | rfl | (rw [hwj]; rfl), ⟨bnext hj HJ.out (Nat.le_succ _) (Nat.le_succ _)⟩, ⟨?_⟩, ⟨HS⟩⟩
                      exact scan_in hj h10 (fun e => by cases e.1) (fun e => by cases e.1) _ HSF.out
              · have hjj : j = T.length := by have := HJ.out.1; omega
                subst hjj
                have hkb : decide (T.length < T.length) = false := decide_eq_false (Nat.lt_irrefl _)
                have hkb2 : decide ((T.length : Int) < (T.length : Int)) = false := decide_eq_false (by omega)
                have hfin := HSF.out
                rw [List.drop_length, scanF] at hfin
                injection hfin with hfin
                injection hfin with hst hfin
                injection hfin with htb hn
                subst hst; subst htb; subst hn
                clear hj HJ HSF
                go_upto_region 26 with (fail)
                clear hsz hkb hkb2
                have cb := HS.cell 0 rfl
                obtain ⟨CQ, hCQ⟩ : ∃ C, C = countS q := ⟨_, rfl⟩
                rw [← hCQ] at HCQ ⊢
                have HEQ := Aside0.mk (hCQ.trans (countS_eq q))
                have HPT := Aside0.mk (count_parts (s := q) (by rw [← hCQ]; exact HCQ.out))
                clear hCQ
                skip
                have HC5 := Aside0.mk HG5q.out.1
                have HC6 := Aside0.mk HG6q.out.1
                by_cases h4 : q.f0 = 4
                · have b4 : (q.f0 == 4) = true := beq_iff_eq.2 h4
                  have H44 := Aside0.mk h4
                  have HOR := Aside0.mk (show q.f0 = 4 ∨ q.f0 = 5 from .inl h4)
                  clear h4
                  go_upto_region 29 with (fail)
                  go_wp2
                  go_loopg [12, 74] (q.f4.length + 1) (fun kq v12 v74 w' => ∃ (j : Nat), v12 = .int .i64 ((2 + countSs (q.f4.take j) : Nat) : Int) ∧ v74 = .int .i64 (j : Int) ∧ Aside0 (j ≤ q.f4.length ∧ q.f4.length + 1 ≤ kq + j) ∧ Aside0 (Sat W w' [blk gq 38 #[.int .i64 q.f0, .int .i64 q.f1.f0, .int .i64 q.f1.f1, .string q.f2, .slice B4 q.f3.length d4, .slice B5 q.f4.length d5, .slice B6 q.f5.length d6], old W]))
                  case atStart => exact ⟨0, by first | rfl | (rw [List.take_zero, countSs]; rfl), rfl, ⟨by omega, by omega⟩, ⟨HS⟩⟩
                  case round =>
                    clear HS
                    obtain ⟨j, rfl, rfl, HJ, HS'⟩ := hrel
                    have HS := HS'.out
                    clear HS'
                    cases gk with
                    | zero => have := HJ.out; omega
                    | succ k2 =>
                      by_cases hj : j < q.f4.length
                      · obtain ⟨N, hN_⟩ : ∃ N : Int, ((2 + countSs (q.f4.take j) : Nat) : Int) = N := ⟨_, rfl⟩
                        have HNN := Aside0.mk hN_
                        rw [hN_]
                        clear hN_
                        have HNt := Aside0.mk (show q.f4.length ≤ 9223372036854775807 by assumption)
                        obtain ⟨It, hI_⟩ : ∃ I : Int, (j : Int) = I := ⟨_, rfl⟩
                        have pIt : 0 ≤ It := by omega
                        have qIt : It < (q.f4.length : Int) := by omega
                        have cIt : decide (It < (q.f4.length : Int)) = true := decide_eq_true qIt
                        have hbw := HS.old 1 rfl
                        obtain ⟨adt, X4, y4, X5, y5, X6, y6, rfl, x0, x1, x2, x3, x4, x5, x6, l4, g4, l5, g5, l6, g6⟩ := at_T38 HC5.out It pIt qIt
                        replace x0 := cell_below x0 hbw
                        replace x1 := cell_below x1 hbw
                        replace x2 := cell_below x2 hbw
                        replace x3 := cell_below x3 hbw
                        replace x4 := cell_below x4 hbw
                        replace x5 := cell_below x5 hbw
                        replace x6 := cell_below x6 hbw
                        clear hbw
                        have hq : rd_T38 q.f4 It = q.f4[j] := by rw [← hI_]; exact rdS hj
                        obtain ⟨t, hqq⟩ : ∃ z_, z_ = rd_T38 q.f4 It := ⟨_, rfl⟩
                        rw [← hqq] at x0 x1 x2 x3 x4 x5 x6 l4 g4 l5 g5 l6 g6 hq
                        have hmem : t ∈ q.f4 := by rw [hq]; exact List.getElem_mem hj
                        have hct : countS t ≤ countSs q.f4 := by have h1 := cs_take hj; rw [← hq] at h1; have h2 := cs_le q.f4 (j + 1); omega
                        have HCT := Aside0.mk (fun (w : World) (hb : Below W.heap.size W w) => palingslaw03_count.calls (kS t) t.f0 t.f1.f0 t.f1.f1 t.f2 X4 y4 t.f3 X5 y5 t.f4 X6 y6 t.f5 _ w (Kd.C_below g4 hb) l4 (Kd.C_below g5 hb) l5 (Kd.C_below g6 hb) l6 (count_f t (by have := (HPT.out.1 HOR.out); omega) (kS t) (Nat.le_refl _)))
                        have hnx : N + ((countS t : Nat) : Int) = ((2 + countSs (q.f4.take (j + 1)) : Nat) : Int) := by rw [cs_take hj, ← hq, ← HNN.out]; omega
                        have hwx : wrap64 (N + ((countS t : Nat) : Int)) = N + ((countS t : Nat) : Int) := w64 _ (by rw [hnx]; omega) (by rw [hnx]; have h2 := cs_le q.f4 (j + 1); have h3 := (HPT.out.1 HOR.out); have h4 := HCQ.out; have h5 := HPT.out.1 HOR.out; have := mx_le; omega)
                        obtain ⟨CT, hCT⟩ : ∃ C : Int, ((countS t : Nat) : Int) = C := ⟨_, rfl⟩
                        rw [hCT] at HCT hnx hwx
                        have HNX := Aside0.mk hnx
                        clear hct hnx hCT
                        have hwt : wrap64 (It + 1) = It + 1 := i_in hj hI_ HNt.out
                        have HQt := Aside0.mk (show ∃ h : j < q.f4.length, t = q.f4[j] from ⟨hj, hq⟩)
                        have HIIt := Aside0.mk (show (j : Int) = It ∧ j < q.f4.length from ⟨hI_, hj⟩)
                        rw [hI_]
                        have hql4t : t.f3.length ≤ 9223372036854775807 := g4.2.1
                        have hql5t : t.f4.length ≤ 9223372036854775807 := g5.2.1
                        have hql6t : t.f5.length ≤ 9223372036854775807 := g6.2.1
                        have HG4t := Aside0.mk (show _ ∧ _ from ⟨g4, l4⟩)
                        have HG5t := Aside0.mk (show _ ∧ _ from ⟨g5, l5⟩)
                        have HG6t := Aside0.mk (show _ ∧ _ from ⟨g6, l6⟩)
                        clear hq hqq hmem hI_ hj g4 g5 g6 l4 l5 l6
                        have HWt := Aside0.mk hwt
                        clear hwt
                        have r1t := eq_true pIt
                        have r2t := eq_true qIt
                        go_upto_region 32 with (first | ((with_reducible refine gate_dst (N := 14) rfl ?_); go_must (refine ev_box HS rfl (N := 14) rfl (cs := #[.int .i64 0, .int .i64 0, .int .i64 0, .string ⟨#[]⟩, .slice none 0 0, .slice none 0 0, .slice none 0 0]) (t := 38) ?hrun ?_); (case hrun => first | (go_simp; done) | (go_simp; rfl)); clear HS; intro gt w HS) | ((with_reducible refine gate_store (t := 38) (p := 14) rfl ?_); go_must (refine ev_store HS 0 rfl rfl 38 (.tmp 14) (.tmp 77) rfl rfl rfl [.int .i64 t.f0, .int .i64 t.f1.f0, .int .i64 t.f1.f1, .string t.f2, .slice X4 t.f3.length y4, .slice X5 t.f4.length y5, .slice X6 t.f5.length y6] ?hx (by kernel_rfl) (by rfl) ?h1 ?_); (case hx => first | rfl | (go_simp; done)); (case h1 => simp [Value.oneCell']); clear HS; intro w HS))
                        clear x0 x1 x2 x3 x4 x5 x6 r1t r2t pIt qIt
                        have hwt := HWt.out
                        go_wp2_with (first | ((with_reducible refine gate_dst (N := 79) rfl ?_); ((with_reducible refine gate_load (ty := 38) (p := 14) rfl ?_); go_must (refine ev_load HS 0 rfl rfl 38 (.tmp 14) rfl (N := 79) rfl rfl _ Tryd.underlying38 rfl (by kernel_rfl) ?_))) | (go_at_call 17; refine (HCT.out _ (HS.old 2 rfl)).mono ?_; rintro r w_ ⟨rfl, hb⟩; replace HS := HS.below hb; clear hb))
                        go_roundg k2
                        case measure => exact Nat.lt_succ_self _
                        case rel =>
                          have h1 := HIIt.out
                          exact ⟨j + 1, by rw [hwx, HNX.out], by rw [hwt, ← h1.1]; rfl, ⟨inext HIIt.out.2 HJ.out⟩, ⟨HS.tail⟩⟩
                      · have hjj : j = q.f4.length := by have := HJ.out.1; omega
                        subst hjj
                        have hkb : decide (q.f4.length < q.f4.length) = false := decide_eq_false (Nat.lt_irrefl _)
                        have hkb2 : decide ((q.f4.length : Int) < (q.f4.length : Int)) = false := decide_eq_false (by omega)
                        rw [List.take_length]
                        clear hj HJ
                        have cb := HS.cell 0 rfl
                        by_cases he : 0 < q.f5.length
                        · have hef : decide (0 < q.f5.length) = true := decide_eq_true he
                          have hef2 : decide ((0 : Int) < (q.f5.length : Int)) = true := decide_eq_true (by omega)
                          have HPE := Aside0.mk (HPT.out.2 H44.out he)
                          have HEL := Aside0.mk he
                          clear he
                          obtain ⟨M, hM⟩ : ∃ M : Int, ((2 + countSs q.f4 : Nat) : Int) = M := ⟨_, rfl⟩
                          have hwM : wrap64 (M + 1) = M + 1 := w64 _ (by omega) (by have := HPT.out.1 HOR.out; have := mx_le; omega)
                          have HM := Aside0.mk hM
                          rw [hM]
                          clear hM
                          go_upto_region 36 with (fail)
                          go_wp2
                          have hM3 : M + 1 = ((2 + countSs q.f4 + 1 + countSs (q.f5.take 0) : Nat) : Int) := by rw [List.take_zero, countSs, ← HM.out]; omega
                          rw [hwM, hM3]
                          clear hM3 hwM
                          go_loopg [12, 97] (q.f5.length + 1) (fun kq v12 v97 w' => ∃ (j : Nat), v12 = .int .i64 ((2 + countSs q.f4 + 1 + countSs (q.f5.take j) : Nat) : Int) ∧ v97 = .int .i64 (j : Int) ∧ Aside0 (j ≤ q.f5.length ∧ q.f5.length + 1 ≤ kq + j) ∧ Aside0 (Sat W w' [blk gq 38 #[.int .i64 q.f0, .int .i64 q.f1.f0, .int .i64 q.f1.f1, .string q.f2, .slice B4 q.f3.length d4, .slice B5 q.f4.length d5, .slice B6 q.f5.length d6], old W]))
                          case atStart => exact ⟨0, by first | rfl | (rw [List.take_zero, countSs]; rfl), rfl, ⟨by omega, by omega⟩, ⟨HS⟩⟩
                          case round =>
                            clear HS
                            obtain ⟨j, rfl, rfl, HJ, HS'⟩ := hrel
                            have HS := HS'.out
                            clear HS'
                            cases gk with
                            | zero => have := HJ.out; omega
                            | succ k3 =>
                              by_cases hj : j < q.f5.length
                              · obtain ⟨N, hN_⟩ : ∃ N : Int, ((2 + countSs q.f4 + 1 + countSs (q.f5.take j) : Nat) : Int) = N := ⟨_, rfl⟩
                                have HNN := Aside0.mk hN_
                                rw [hN_]
                                clear hN_
                                have HNt := Aside0.mk (show q.f5.length ≤ 9223372036854775807 by assumption)
                                obtain ⟨It, hI_⟩ : ∃ I : Int, (j : Int) = I := ⟨_, rfl⟩
                                have pIt : 0 ≤ It := by omega
                                have qIt : It < (q.f5.length : Int) := by omega
                                have cIt : decide (It < (q.f5.length : Int)) = true := decide_eq_true qIt
                                have hbw := HS.old 1 rfl
                                obtain ⟨adt, U4, v4, U5, v5, U6, v6, rfl, x0, x1, x2, x3, x4, x5, x6, l4, g4, l5, g5, l6, g6⟩ := at_T38 HC6.out It pIt qIt
                                replace x0 := cell_below x0 hbw
                                replace x1 := cell_below x1 hbw
                                replace x2 := cell_below x2 hbw
                                replace x3 := cell_below x3 hbw
                                replace x4 := cell_below x4 hbw
                                replace x5 := cell_below x5 hbw
                                replace x6 := cell_below x6 hbw
                                clear hbw
                                have hq : rd_T38 q.f5 It = q.f5[j] := by rw [← hI_]; exact rdS hj
                                obtain ⟨t, hqq⟩ : ∃ z_, z_ = rd_T38 q.f5 It := ⟨_, rfl⟩
                                rw [← hqq] at x0 x1 x2 x3 x4 x5 x6 l4 g4 l5 g5 l6 g6 hq
                                have hmem : t ∈ q.f5 := by rw [hq]; exact List.getElem_mem hj
                                have hct : countS t ≤ countSs q.f5 := by have h1 := cs_take hj; rw [← hq] at h1; have h2 := cs_le q.f5 (j + 1); omega
                                have HCT := Aside0.mk (fun (w : World) (hb : Below W.heap.size W w) => palingslaw03_count.calls (kS t) t.f0 t.f1.f0 t.f1.f1 t.f2 U4 v4 t.f3 U5 v5 t.f4 U6 v6 t.f5 _ w (Kd.C_below g4 hb) l4 (Kd.C_below g5 hb) l5 (Kd.C_below g6 hb) l6 (count_f t (by have := (HPE.out); omega) (kS t) (Nat.le_refl _)))
                                have hnx : N + ((countS t : Nat) : Int) = ((2 + countSs q.f4 + 1 + countSs (q.f5.take (j + 1)) : Nat) : Int) := by rw [cs_take hj, ← hq, ← HNN.out]; omega
                                have hwx : wrap64 (N + ((countS t : Nat) : Int)) = N + ((countS t : Nat) : Int) := w64 _ (by rw [hnx]; omega) (by rw [hnx]; have h2 := cs_le q.f5 (j + 1); have h3 := (HPE.out); have h4 := HCQ.out; have h5 := HPT.out.1 HOR.out; have := mx_le; omega)
                                obtain ⟨CT, hCT⟩ : ∃ C : Int, ((countS t : Nat) : Int) = C := ⟨_, rfl⟩
                                rw [hCT] at HCT hnx hwx
                                have HNX := Aside0.mk hnx
                                clear hct hnx hCT
                                have hwt : wrap64 (It + 1) = It + 1 := i_in hj hI_ HNt.out
                                have HQt := Aside0.mk (show ∃ h : j < q.f5.length, t = q.f5[j] from ⟨hj, hq⟩)
                                have HIIt := Aside0.mk (show (j : Int) = It ∧ j < q.f5.length from ⟨hI_, hj⟩)
                                rw [hI_]
                                have hql4t : t.f3.length ≤ 9223372036854775807 := g4.2.1
                                have hql5t : t.f4.length ≤ 9223372036854775807 := g5.2.1
                                have hql6t : t.f5.length ≤ 9223372036854775807 := g6.2.1
                                have HG4t := Aside0.mk (show _ ∧ _ from ⟨g4, l4⟩)
                                have HG5t := Aside0.mk (show _ ∧ _ from ⟨g5, l5⟩)
                                have HG6t := Aside0.mk (show _ ∧ _ from ⟨g6, l6⟩)
                                clear hq hqq hmem hI_ hj g4 g5 g6 l4 l5 l6
                                have HWt := Aside0.mk hwt
                                clear hwt
                                have r1t := eq_true pIt
                                have r2t := eq_true qIt
                                go_upto_region 39 with (first | ((with_reducible refine gate_dst (N := 16) rfl ?_); go_must (refine ev_box HS rfl (N := 16) rfl (cs := #[.int .i64 0, .int .i64 0, .int .i64 0, .string ⟨#[]⟩, .slice none 0 0, .slice none 0 0, .slice none 0 0]) (t := 38) ?hrun ?_); (case hrun => first | (go_simp; done) | (go_simp; rfl)); clear HS; intro gt w HS) | ((with_reducible refine gate_store (t := 38) (p := 16) rfl ?_); go_must (refine ev_store HS 0 rfl rfl 38 (.tmp 16) (.tmp 100) rfl rfl rfl [.int .i64 t.f0, .int .i64 t.f1.f0, .int .i64 t.f1.f1, .string t.f2, .slice U4 t.f3.length v4, .slice U5 t.f4.length v5, .slice U6 t.f5.length v6] ?hx (by kernel_rfl) (by rfl) ?h1 ?_); (case hx => first | rfl | (go_simp; done)); (case h1 => simp [Value.oneCell']); clear HS; intro w HS))
                                clear x0 x1 x2 x3 x4 x5 x6 r1t r2t pIt qIt
                                have hwt := HWt.out
                                go_wp2_with (first | ((with_reducible refine gate_dst (N := 102) rfl ?_); ((with_reducible refine gate_load (ty := 38) (p := 16) rfl ?_); go_must (refine ev_load HS 0 rfl rfl 38 (.tmp 16) rfl (N := 102) rfl rfl _ Tryd.underlying38 rfl (by kernel_rfl) ?_))) | (go_at_call 17; refine (HCT.out _ (HS.old 2 rfl)).mono ?_; rintro r w_ ⟨rfl, hb⟩; replace HS := HS.below hb; clear hb))
                                go_roundg k3
                                case measure => exact Nat.lt_succ_self _
                                case rel =>
                                  have h1 := HIIt.out
                                  exact ⟨j + 1, by rw [hwx, HNX.out], by rw [hwt, ← h1.1]; rfl, ⟨inext HIIt.out.2 HJ.out⟩, ⟨HS.tail⟩⟩
                              · have hjj : j = q.f5.length := by have := HJ.out.1; omega
                                subst hjj
                                have hkb : decide (q.f5.length < q.f5.length) = false := decide_eq_false (Nat.lt_irrefl _)
                                have hkb2 : decide ((q.f5.length : Int) < (q.f5.length : Int)) = false := decide_eq_false (by omega)
                                rw [List.take_length]
                                clear hj HJ
                                have cb := HS.cell 0 rfl
                                have hfi : ((2 + countSs q.f4 + 1 + countSs q.f5 : Nat) : Int) = ((CQ : Nat) : Int) := by
                                  have h := HEQ.out
                                  rw [if_pos HOR.out, if_pos (show q.f0 = 4 ∧ 0 < q.f5.length from ⟨H44.out, HEL.out⟩), ← Nat.add_assoc] at h
                                  first | (rw [h]; done) | (rw [h]; rfl)
                                rw [hfi]
                                clear hfi
                                have hbb : (((CQ : Nat) : Int) == ((CQ : Nat) : Int)) = true := beq_self_eq_true _
                                have hwq := HWq.out
                                go_wp2
                                go_roundg k0
                                case measure => exact Nat.lt_succ_self _
                                case rel =>
                                  have h1 := HIIq.out
                                  exact ⟨i + 1, by rw [hwq, ← h1.1]; rfl, ⟨inext HIIq.out.2 HI.out⟩, ⟨HS.tail⟩⟩
                        · have hef : decide (0 < q.f5.length) = false := decide_eq_false he
                          have hef2 : decide ((0 : Int) < (q.f5.length : Int)) = false := decide_eq_false (by omega)
                          have HEL := Aside0.mk he
                          clear he
                          have hfi : ((2 + countSs q.f4 : Nat) : Int) = ((CQ : Nat) : Int) := by
                            have h := HEQ.out
                            rw [if_pos HOR.out, if_neg (show ¬ (q.f0 = 4 ∧ 0 < q.f5.length) from fun e => HEL.out e.2), Nat.add_zero] at h
                            first | (rw [h]; done) | (rw [h]; rfl)
                          rw [hfi]
                          clear hfi
                          have hbb : (((CQ : Nat) : Int) == ((CQ : Nat) : Int)) = true := beq_self_eq_true _
                          have hwq := HWq.out
                          go_wp2
                          go_roundg k0
                          case measure => exact Nat.lt_succ_self _
                          case rel =>
                            have h1 := HIIq.out
                            exact ⟨i + 1, by rw [hwq, ← h1.1]; rfl, ⟨inext HIIq.out.2 HI.out⟩, ⟨HS.tail⟩⟩
                · have b4 : (q.f0 == 4) = false := beq_eq_false_iff_ne.2 h4
                  have H44 := Aside0.mk h4
                  clear h4
                  by_cases h5 : q.f0 = 5
                  · have b5 : (q.f0 == 5) = true := beq_iff_eq.2 h5
                    have HOR := Aside0.mk (show q.f0 = 4 ∨ q.f0 = 5 from .inr h5)
                    clear h5
                    go_upto_region 29 with (fail)
                    go_wp2
                    go_loopg [12, 74] (q.f4.length + 1) (fun kq v12 v74 w' => ∃ (j : Nat), v12 = .int .i64 ((2 + countSs (q.f4.take j) : Nat) : Int) ∧ v74 = .int .i64 (j : Int) ∧ Aside0 (j ≤ q.f4.length ∧ q.f4.length + 1 ≤ kq + j) ∧ Aside0 (Sat W w' [blk gq 38 #[.int .i64 q.f0, .int .i64 q.f1.f0, .int .i64 q.f1.f1, .string q.f2, .slice B4 q.f3.length d4, .slice B5 q.f4.length d5, .slice B6 q.f5.length d6], old W]))
                    case atStart => exact ⟨0, by first | rfl | (rw [List.take_zero, countSs]; rfl), rfl, ⟨by omega, by omega⟩, ⟨HS⟩⟩
                    case round =>
                      clear HS
                      obtain ⟨j, rfl, rfl, HJ, HS'⟩ := hrel
                      have HS := HS'.out
                      clear HS'
                      cases gk with
                      | zero => have := HJ.out; omega
                      | succ k2 =>
                        by_cases hj : j < q.f4.length
                        · obtain ⟨N, hN_⟩ : ∃ N : Int, ((2 + countSs (q.f4.take j) : Nat) : Int) = N := ⟨_, rfl⟩
                          have HNN := Aside0.mk hN_
                          rw [hN_]
                          clear hN_
                          have HNt := Aside0.mk (show q.f4.length ≤ 9223372036854775807 by assumption)
                          obtain ⟨It, hI_⟩ : ∃ I : Int, (j : Int) = I := ⟨_, rfl⟩
                          have pIt : 0 ≤ It := by omega
                          have qIt : It < (q.f4.length : Int) := by omega
                          have cIt : decide (It < (q.f4.length : Int)) = true := decide_eq_true qIt
                          have hbw := HS.old 1 rfl
                          obtain ⟨adt, X4, y4, X5, y5, X6, y6, rfl, x0, x1, x2, x3, x4, x5, x6, l4, g4, l5, g5, l6, g6⟩ := at_T38 HC5.out It pIt qIt
                          replace x0 := cell_below x0 hbw
                          replace x1 := cell_below x1 hbw
                          replace x2 := cell_below x2 hbw
                          replace x3 := cell_below x3 hbw
                          replace x4 := cell_below x4 hbw
                          replace x5 := cell_below x5 hbw
                          replace x6 := cell_below x6 hbw
                          clear hbw
                          have hq : rd_T38 q.f4 It = q.f4[j] := by rw [← hI_]; exact rdS hj
                          obtain ⟨t, hqq⟩ : ∃ z_, z_ = rd_T38 q.f4 It := ⟨_, rfl⟩
                          rw [← hqq] at x0 x1 x2 x3 x4 x5 x6 l4 g4 l5 g5 l6 g6 hq
                          have hmem : t ∈ q.f4 := by rw [hq]; exact List.getElem_mem hj
                          have hct : countS t ≤ countSs q.f4 := by have h1 := cs_take hj; rw [← hq] at h1; have h2 := cs_le q.f4 (j + 1); omega
                          have HCT := Aside0.mk (fun (w : World) (hb : Below W.heap.size W w) => palingslaw03_count.calls (kS t) t.f0 t.f1.f0 t.f1.f1 t.f2 X4 y4 t.f3 X5 y5 t.f4 X6 y6 t.f5 _ w (Kd.C_below g4 hb) l4 (Kd.C_below g5 hb) l5 (Kd.C_below g6 hb) l6 (count_f t (by have := (HPT.out.1 HOR.out); omega) (kS t) (Nat.le_refl _)))
                          have hnx : N + ((countS t : Nat) : Int) = ((2 + countSs (q.f4.take (j + 1)) : Nat) : Int) := by rw [cs_take hj, ← hq, ← HNN.out]; omega
                          have hwx : wrap64 (N + ((countS t : Nat) : Int)) = N + ((countS t : Nat) : Int) := w64 _ (by rw [hnx]; omega) (by rw [hnx]; have h2 := cs_le q.f4 (j + 1); have h3 := (HPT.out.1 HOR.out); have h4 := HCQ.out; have h5 := HPT.out.1 HOR.out; have := mx_le; omega)
                          obtain ⟨CT, hCT⟩ : ∃ C : Int, ((countS t : Nat) : Int) = C := ⟨_, rfl⟩
                          rw [hCT] at HCT hnx hwx
                          have HNX := Aside0.mk hnx
                          clear hct hnx hCT
                          have hwt : wrap64 (It + 1) = It + 1 := i_in hj hI_ HNt.out
                          have HQt := Aside0.mk (show ∃ h : j < q.f4.length, t = q.f4[j] from ⟨hj, hq⟩)
                          have HIIt := Aside0.mk (show (j : Int) = It ∧ j < q.f4.length from ⟨hI_, hj⟩)
                          rw [hI_]
                          have hql4t : t.f3.length ≤ 9223372036854775807 := g4.2.1
                          have hql5t : t.f4.length ≤ 9223372036854775807 := g5.2.1
                          have hql6t : t.f5.length ≤ 9223372036854775807 := g6.2.1
                          have HG4t := Aside0.mk (show _ ∧ _ from ⟨g4, l4⟩)
                          have HG5t := Aside0.mk (show _ ∧ _ from ⟨g5, l5⟩)
                          have HG6t := Aside0.mk (show _ ∧ _ from ⟨g6, l6⟩)
                          clear hq hqq hmem hI_ hj g4 g5 g6 l4 l5 l6
                          have HWt := Aside0.mk hwt
                          clear hwt
                          have r1t := eq_true pIt
                          have r2t := eq_true qIt
                          go_upto_region 32 with (first | ((with_reducible refine gate_dst (N := 14) rfl ?_); go_must (refine ev_box HS rfl (N := 14) rfl (cs := #[.int .i64 0, .int .i64 0, .int .i64 0, .string ⟨#[]⟩, .slice none 0 0, .slice none 0 0, .slice none 0 0]) (t := 38) ?hrun ?_); (case hrun => first | (go_simp; done) | (go_simp; rfl)); clear HS; intro gt w HS) | ((with_reducible refine gate_store (t := 38) (p := 14) rfl ?_); go_must (refine ev_store HS 0 rfl rfl 38 (.tmp 14) (.tmp 77) rfl rfl rfl [.int .i64 t.f0, .int .i64 t.f1.f0, .int .i64 t.f1.f1, .string t.f2, .slice X4 t.f3.length y4, .slice X5 t.f4.length y5, .slice X6 t.f5.length y6] ?hx (by kernel_rfl) (by rfl) ?h1 ?_); (case hx => first | rfl | (go_simp; done)); (case h1 => simp [Value.oneCell']); clear HS; intro w HS))
                          clear x0 x1 x2 x3 x4 x5 x6 r1t r2t pIt qIt
                          have hwt := HWt.out
                          go_wp2_with (first | ((with_reducible refine gate_dst (N := 79) rfl ?_); ((with_reducible refine gate_load (ty := 38) (p := 14) rfl ?_); go_must (refine ev_load HS 0 rfl rfl 38 (.tmp 14) rfl (N := 79) rfl rfl _ Tryd.underlying38 rfl (by kernel_rfl) ?_))) | (go_at_call 17; refine (HCT.out _ (HS.old 2 rfl)).mono ?_; rintro r w_ ⟨rfl, hb⟩; replace HS := HS.below hb; clear hb))
                          go_roundg k2
                          case measure => exact Nat.lt_succ_self _
                          case rel =>
                            have h1 := HIIt.out
                            exact ⟨j + 1, by rw [hwx, HNX.out], by rw [hwt, ← h1.1]; rfl, ⟨inext HIIt.out.2 HJ.out⟩, ⟨HS.tail⟩⟩
                        · have hjj : j = q.f4.length := by have := HJ.out.1; omega
                          subst hjj
                          have hkb : decide (q.f4.length < q.f4.length) = false := decide_eq_false (Nat.lt_irrefl _)
                          have hkb2 : decide ((q.f4.length : Int) < (q.f4.length : Int)) = false := decide_eq_false (by omega)
                          rw [List.take_length]
                          clear hj HJ
                          have cb := HS.cell 0 rfl
                          have hfi : ((2 + countSs q.f4 : Nat) : Int) = ((CQ : Nat) : Int) := by
                            have h := HEQ.out
                            rw [if_pos HOR.out, if_neg (show ¬ (q.f0 = 4 ∧ 0 < q.f5.length) from fun e => H44.out e.1), Nat.add_zero] at h
                            first | (rw [h]; done) | (rw [h]; rfl)
                          rw [hfi]
                          clear hfi
                          have hbb : (((CQ : Nat) : Int) == ((CQ : Nat) : Int)) = true := beq_self_eq_true _
                          have hwq := HWq.out
                          go_wp2
                          go_roundg k0
                          case measure => exact Nat.lt_succ_self _
                          case rel =>
                            have h1 := HIIq.out
                            exact ⟨i + 1, by rw [hwq, ← h1.1]; rfl, ⟨inext HIIq.out.2 HI.out⟩, ⟨HS.tail⟩⟩
                  · have b5 : (q.f0 == 5) = false := beq_eq_false_iff_ne.2 h5
                    have HOR := Aside0.mk (show ¬ (q.f0 = 4 ∨ q.f0 = 5) from fun e => e.elim H44.out h5)
                    clear h5
                    go_upto_region 41 with (fail)
                    have hfi : (1 : Int) = ((CQ : Nat) : Int) := by
                      have h := HEQ.out
                      rw [if_neg HOR.out, if_neg (show ¬ (q.f0 = 4 ∧ 0 < q.f5.length) from fun e => H44.out e.1), Nat.add_zero] at h
                      first | (rw [h]; done) | (rw [h]; rfl)
                    have hbb : (((CQ : Nat) : Int) == 1) = true := by rw [← hfi]; rfl
                    clear hfi
                    have hwq := HWq.out
                    go_wp2
                    go_roundg k0
                    case measure => exact Nat.lt_succ_self _
                    case rel =>
                      have h1 := HIIq.out
                      exact ⟨i + 1, by rw [hwq, ← h1.1]; rfl, ⟨inext HIIq.out.2 HI.out⟩, ⟨HS.tail⟩⟩
      · have hkk : i = l.length := by have := HI.out.1; omega
        subst hkk
        have hkb : decide (l.length < l.length) = false := decide_eq_false (Nat.lt_irrefl _)
        have hkb2 : decide ((l.length : Int) < (l.length : Int)) = false := decide_eq_false (by omega)
        go_wp2
        go_ret
        exact ⟨rfl, HS.old 0 rfl⟩
set_option maxRecDepth 100000 in
set_option maxHeartbeats 4000000 in
theorem lines_few (l : List S38) (A0 : Option Addr) (c0 : Nat) (deep : Int) (W : World) (hG : GL W)
    (HFW : Aside0 (∀ w : World, Below W.heap.size W w → Calls Tryd.prog 14 #[.slice A0 l.length c0, .int .i64 0] w fun r w' => r = .returned (.bool false) ∧ Below w.heap.size w w')) :
    Calls Tryd.prog 5 #[.slice A0 l.length c0, .int .i64 deep] W fun e W' => e = .returned (.bool true) ∧ Below W.heap.size W W' := by
  have HS := Sat.start W
  have HG := Aside0.mk hG
  clear hG
  go_enter Tryd.func5, Tryd.ntmps5
  go_upto_region 3 with (go_at_call 7; refine (head_calls (fun w h => HG.out.below (h.old 0 rfl)) HS).mono ?_; rintro e w_ ⟨rfl, HS_⟩; clear HS; have HS := HS_; clear HS_)
  go_wp2_with (go_at_call 14; refine (HFW.out _ (HS.old 0 rfl)).mono ?_; rintro r w_ ⟨rfl, hb⟩; replace HS := HS.below hb; clear hb)
  go_ret
  exact ⟨rfl, HS.old 0 rfl⟩
theorem sN_big : sN 6 ≤ 9000000000000000000 := by decide +kernel
theorem lines_walk {H : Type} {enc : TypeId × Value → H} {d : DataW H} {p : List MemPlace} (v0 : Value) (deep : Int) (W : World) (h0 : Arg enc Tryd.prog W 36 v0 d p) (_ : (Lit.int .i64 deep).wf = true) (hL : laidMetH Tryd.prog astLaid W) :
    Calls Tryd.prog 5 #[v0, .int .i64 deep] W fun e W' => e = .returned (.bool true) ∧ Below W.heap.size W W' := by
  have hG := of_laid hL
  obtain ⟨A, c, l, rfl, hcap, hC, hokl⟩ := open_stmts h0
  have hok : okSs l := okSs_all l hokl
  have HFW : ∀ w : World, Below W.heap.size W w → Calls Tryd.prog 14 #[.slice A l.length c, .int .i64 0] w fun r w' => r = .returned (.bool (fewSs 7 l)) ∧ Below w.heap.size w w' :=
    fun w hb => palingslaw03_FewStmts.calls 2110 A c l 0 _ w (Kd.C_below hC hb) hcap (fews_f 7 0 (by omega) (by omega) l 2110 (by omega))
  cases hf : fewSs 7 l with
  | false => rw [hf] at HFW; exact lines_few l A c deep W hG ⟨HFW⟩
  | true =>
    rw [hf] at HFW
    obtain ⟨dn, hdn, h7⟩ : ∃ dn : Nat, (dn : Int) = deep % 8 ∧ dn ≤ 7 := ⟨(deep % 8).toNat, by omega, by omega⟩
    have hpl := few_plR 6 (Nat.le_refl _) l hf hok
    have hrd := few_room 6 dn (Nat.le_refl _) (by omega) l hf hok
    have htx := (few_text 6 dn (by omega) l hf hok).1
    have hct := (few_count 6 l hf).1
    refine lines_in l A c dn (deep % 8) deep W hG hdn (and7 deep) hC.2.1 ⟨hC⟩ ⟨HFW⟩ ⟨fun s hs w hb B4 d4 B5 d5 B6 d6 g4 m4 g5 m5 g6 m6 => ?_⟩ ⟨fun s hs w hb B4 d4 B5 d5 B6 d6 g4 m4 g5 m5 g6 m6 => ?_⟩ ⟨fun s hs => Nat.le_trans (htx s hs) sN_big⟩ ⟨fun s hs => Nat.le_trans (hct s hs) cN_le⟩
    · exact plain_calls s w B4 d4 B5 d5 B6 d6 (hG.below hb) (okSs_mem hok hs) (plRs_mem hpl hs) (Kd.C_below g4 hb) m4 (Kd.C_below g5 hb) m5 (Kd.C_below g6 hb) m6
    · rw [← hdn]
      exact texts_calls s w dn B4 d4 B5 d5 B6 d6 (hG.below hb) (okSs_mem hok hs) (roomSs_mem hrd hs) (Kd.C_below g4 hb) m4 (Kd.C_below g5 hb) m5 (Kd.C_below g6 hb) m6
end Go.Proofs.YtaammdmaldodaaaDoor.B
