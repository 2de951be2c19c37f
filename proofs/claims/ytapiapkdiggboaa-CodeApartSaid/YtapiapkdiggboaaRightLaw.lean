/- The law's own reading of what is right: its closures and itself, walked. -/
import Derived.Test.YtapiapkdiggboaaRight
import Derived.Laws.EntriesVeiled
namespace Go.Proofs.Ytapiapkdiggboaa.B
open Go.RowKit Go.Proofs.Ytapiapkdiggboaa.Mine Go.Proofs.YtapiapkdiggboaaW.PrintWords Go.Proofs.YtapiapkdiggboaaW.PrintLast Go.Proofs.YtapiapkdiggboaaW.PrintMore
set_option linter.unusedSimpArgs false
set_option linter.unusedVariables false

def memB (l : List UInt8) (c : Int) : Bool := l.any fun b => (b.toNat : Int) == c
theorem memB_snoc (l : List UInt8) (b : UInt8) (c : Int) : memB (l ++ [b]) c = (memB l c || ((b.toNat : Int) == c)) := by
  simp [memB]
theorem memB_take (s : ByteArray) (k : Nat) (c : Int) (h : memB (s.data.toList.take k) c = true) : memB s.data.toList c = true := by
  unfold memB at *
  rw [List.any_eq_true] at *
  obtain ⟨x, hx, hc⟩ := h
  exact ⟨x, List.mem_of_mem_take hx, hc⟩
theorem take_next (s : ByteArray) (k : Nat) (h : k < s.size) : s.data.toList.take (k + 1) = s.data.toList.take k ++ [s[k]] := by
  rw [List.take_succ_eq_append_getElem (by simpa using h)]; rfl

set_option maxHeartbeats 2000000 in
set_option maxRecDepth 100000 in
theorem is_calls (c op : Int) (s : ByteArray) (ph pi : Addr) (gs : Nat) (w : World) (hs : s.size ≤ 1000) (h0 : 0 ≤ op) (h1 : op < 13) (hc0 : 0 ≤ c) (hc1 : c < 256)
    (hp : w.cell? ph = some (.slice (some ⟨gs, 0, none⟩) 13 13)) (hi : w.cell? pi = some (.int .i64 op)) (hg : w.cell? ⟨gs, op.toNat, none⟩ = some (.string s)) :
    Calls Try.prog 22 #[.int .u8 c, .pointer (some ph), .pointer (some pi)] w fun e w' => e = .returned (.bool (memB s.data.toList c)) ∧ Drawn0 w w' := by
  have HI : decide (op < 13) = true := by simpa using h1
  go_enter Try.func22, Try.ntmps22
  go_wp2
  go_loop [6] (fun v => ∃ k : Nat, k ≤ s.size ∧ v = .int .i64 k ∧ Aside0 (memB (s.data.toList.take k) c = false)) (fun v => s.size - (intOf v).toNat)
  case atStart => exact ⟨0, Nat.zero_le _, rfl, ⟨rfl⟩⟩
  case round =>
    obtain ⟨k, hk, rfl, HM⟩ := hrel
    by_cases hlt : k < s.size
    · have hsn := memB_snoc (s.data.toList.take k) s[k] c
      rw [← take_next s k hlt, HM.out, Bool.false_or] at hsn
      have HS := Aside0.mk hsn
      clear hsn
      rcases Bool.eq_false_or_eq_true (((s[k].toNat : Int)) == c) with he | he
      · go_wp2
        go_ret
        rw [memB_take s (k + 1) c (by rw [HS.out]; exact he)]
        exact ⟨rfl, by repeat (first | exact Drawn0.refl _ | apply Drawn0.step)⟩
      · go_wp2
        go_round
        case rel => exact ⟨k + 1, by omega, by go_num, ⟨by rw [HS.out]; exact he⟩⟩
        case measure => simp [intOf]; omega
    · have hks : k = s.size := by omega
      go_wp2
      go_ret
      rw [show memB s.data.toList c = false by rw [← HM.out, List.take_of_length_le (by simp; omega)]]
      exact ⟨rfl, by repeat (first | exact Drawn0.refl _ | apply Drawn0.step)⟩

def regL (has : Bool) (n : Int) : Bool := if has then decide (0 ≤ n) && decide (n ≤ 63) else n == 0
theorem regL_eq (has : Bool) (n : Int) : regL has n = regB has n := by
  unfold regL regB
  cases has
  · rfl
  · simp only [if_true]
    have : decide (n ≤ 63) = decide (n < 64) := by rw [Bool.eq_iff_iff]; simp; omega
    rw [this]

set_option maxHeartbeats 2000000 in
set_option maxRecDepth 100000 in
theorem regc_calls (c n op : Int) (s : ByteArray) (pf ph pi : Addr) (gs : Nat) (w : World) (hs : s.size ≤ 1000) (h0 : 0 ≤ op) (h1 : op < 13) (hc0 : 0 ≤ c) (hc1 : c < 256)
    (hf : w.cell? pf = some (.func (.func 22) #[] #[.pointer (some ph), .pointer (some pi)]))
    (hp : w.cell? ph = some (.slice (some ⟨gs, 0, none⟩) 13 13)) (hi : w.cell? pi = some (.int .i64 op)) (hg : w.cell? ⟨gs, op.toNat, none⟩ = some (.string s)) :
    Calls Try.prog 23 #[.int .u8 c, .int .i64 n, .pointer (some pf)] w fun e w' => e = .returned (.bool (regB (memB s.data.toList c) n)) ∧ Drawn0 w w' := by
  have HC := Aside0.mk (is_calls c op s ph pi gs w hs h0 h1 hc0 hc1 hp hi hg)
  obtain ⟨m, hm⟩ : ∃ m, m = memB s.data.toList c := ⟨_, rfl⟩
  rw [← hm] at HC ⊢
  have HM := Aside0.mk hm
  clear hm hp hi hg
  rw [← regL_eq]
  unfold regL
  cases m
  · rcases Bool.eq_false_or_eq_true (n == 0) with hn | hn
    all_goals
      go_enter Try.func23, Try.ntmps23
      go_wp2_with ((with_reducible refine gate_calleeT (t := 6) (d := (some 8)) rfl rfl ?_); refine goesC_ (some 8) rfl rfl Try.func22 (by kernel_rfl) rfl #[.int .u8 c, .pointer (some ph), .pointer (some pi)] _ rfl rfl (by simp only [List.map_toArray, List.map_cons, List.map_nil, List.append_toArray, List.cons_append, List.nil_append]; rfl) ?_; (with_reducible refine (HC.out).mono ?_); rintro e w' ⟨rfl, ⟨nd, rfl⟩⟩; refine ⟨_, rfl, ?_⟩)
      go_ret
      exact ⟨by simp [hn], by repeat (first | exact Drawn0.refl _ | apply Drawn0.step)⟩
  · rcases Bool.eq_false_or_eq_true (decide (0 ≤ n)) with hn | hn <;> rcases Bool.eq_false_or_eq_true (decide (n ≤ 63)) with hn2 | hn2
    all_goals
      go_enter Try.func23, Try.ntmps23
      go_wp2_with ((with_reducible refine gate_calleeT (t := 6) (d := (some 8)) rfl rfl ?_); refine goesC_ (some 8) rfl rfl Try.func22 (by kernel_rfl) rfl #[.int .u8 c, .pointer (some ph), .pointer (some pi)] _ rfl rfl (by simp only [List.map_toArray, List.map_cons, List.map_nil, List.append_toArray, List.cons_append, List.nil_append]; rfl) ?_; (with_reducible refine (HC.out).mono ?_); rintro e w' ⟨rfl, ⟨nd, rfl⟩⟩; refine ⟨_, rfl, ?_⟩)
      go_ret
      exact ⟨by simp [hn, hn2], by repeat (first | exact Drawn0.refl _ | apply Drawn0.step)⟩

def hasL : List (List UInt8) := [[], [68, 73], [68, 65], [68, 65, 66], [68, 65, 73], [65, 66, 73], [73], [65, 73], [73], [], [], [65], [73]]
def hasS (op : Int) : ByteArray := ⟨(hasL.getD op.toNat []).toArray⟩
theorem has_parts (op : Int) (h0 : 1 ≤ op) (h1 : op ≤ 12) : memB (hasS op).data.toList 68 = pD op ∧ memB (hasS op).data.toList 65 = pA op ∧ memB (hasS op).data.toList 66 = pB op ∧ memB (hasS op).data.toList 73 = pI op ∧ (hasS op).size ≤ 1000 := by
  have ho : op = 1 ∨ op = 2 ∨ op = 3 ∨ op = 4 ∨ op = 5 ∨ op = 6 ∨ op = 7 ∨ op = 8 ∨ op = 9 ∨ op = 10 ∨ op = 11 ∨ op = 12 := by omega
  rcases ho with rfl | rfl | rfl | rfl | rfl | rfl | rfl | rfl | rfl | rfl | rfl | rfl <;> decide
def hasC : Array Value := (hasL.map fun l => Value.string ⟨l.toArray⟩).toArray
theorem has_cell {w : World} {gs t : Nat} (h : w.heap[gs]? = some (.cells hasC t (0, 0))) (op : Int) (h0 : 0 ≤ op) (h1 : op < 13) : w.cell? ⟨gs, op.toNat, none⟩ = some (.string (hasS op)) := by
  rw [blk_cell h]
  have ho : op = 0 ∨ op = 1 ∨ op = 2 ∨ op = 3 ∨ op = 4 ∨ op = 5 ∨ op = 6 ∨ op = 7 ∨ op = 8 ∨ op = 9 ∨ op = 10 ∨ op = 11 ∨ op = 12 := by omega
  rcases ho with rfl | rfl | rfl | rfl | rfl | rfl | rfl | rfl | rfl | rfl | rfl | rfl | rfl <;> rfl

set_option maxHeartbeats 4000000 in
set_option maxRecDepth 100000 in
theorem rightlaw_calls (op d a b bin imm : Int) (w : World) :
    Calls Try.prog 11 #[.agg #[.int .i64 op, .int .i64 d, .int .i64 a, .int .i64 b, .int .i64 bin, .int .i64 imm]] w fun e w' => e = .returned (.bool (rightB op d a b bin imm)) ∧ Below w.heap.size w w' := by
  have HB := Aside0.mk (Below.refl w.heap.size w)
  go_enter Try.func11, Try.ntmps11
  go_upto_region 2 with (first
    | ((with_reducible refine gate_dst (N := 1) rfl ?_); refine box_event ?hg (N := 1) ?hd (cs := #[.int .i64 op, .int .i64 d, .int .i64 a, .int .i64 b, .int .i64 bin, .int .i64 imm]) (t := 25) ?hr ?_; (case hd => rfl); (case hg => rfl); (case hr => first | (go_simp; done) | (go_simp; rfl)); intro gb hg w1 hbox hb; have n0_ := Aside0.mk (below_step (by repeat (first | (with_reducible first | exact HB.out | apply below_alloc | apply pw_below_drewN | apply below_drew1) | exact HB.out)) hb); have n1_ := Aside0.mk (hbox); have n2_ : w.heap.size ≤ gb := (by rw [hg]; exact (below_size (by repeat (first | (with_reducible first | exact HB.out | apply below_alloc | apply pw_below_drewN | apply below_drew1) | exact HB.out)))); clear HB; have HB := n0_; have BKgb := n1_; have GEgb := Aside0.mk n2_; clear n0_ n1_ n2_; clear hb hbox hg; have hczgb_0 : w1.cell? ⟨gb, 0, none⟩ = some (.int .i64 op) := (blk_cell BKgb.out 0).trans rfl; have hfzgb_0 := blk_frozen BKgb.out 0; have hczgb_1 : w1.cell? ⟨gb, 1, none⟩ = some (.int .i64 d) := (blk_cell BKgb.out 1).trans rfl; have hfzgb_1 := blk_frozen BKgb.out 1; have hczgb_2 : w1.cell? ⟨gb, 2, none⟩ = some (.int .i64 a) := (blk_cell BKgb.out 2).trans rfl; have hfzgb_2 := blk_frozen BKgb.out 2; have hczgb_3 : w1.cell? ⟨gb, 3, none⟩ = some (.int .i64 b) := (blk_cell BKgb.out 3).trans rfl; have hfzgb_3 := blk_frozen BKgb.out 3; have hczgb_4 : w1.cell? ⟨gb, 4, none⟩ = some (.int .i64 bin) := (blk_cell BKgb.out 4).trans rfl; have hfzgb_4 := blk_frozen BKgb.out 4; have hczgb_5 : w1.cell? ⟨gb, 5, none⟩ = some (.int .i64 imm) := (blk_cell BKgb.out 5).trans rfl; have hfzgb_5 := blk_frozen BKgb.out 5)
    | ((with_reducible refine gate_dst (N := 6) rfl ?_); refine lit_event ?hg (N := 6) ?hd (cs := hasC) (t := 9) (n := 13) ?hr ?_; (case hd => rfl); (case hg => rfl); (case hr => go_simp; rfl); intro gs hgs w2 hbk hb; have n0_ := Aside0.mk (below_step (by repeat (first | (with_reducible first | exact HB.out | apply below_alloc | apply pw_below_drewN | apply below_drew1) | exact HB.out)) hb); have n1_ := Aside0.mk ((hb.block gb (blk_lt BKgb.out)).trans BKgb.out); have n2_ : gb < gs := (by rw [hgs]; exact blk_lt BKgb.out); clear HB BKgb; have HB := n0_; have BKgb := n1_; have BKgs := Aside0.mk hbk; have Lgs := Aside0.mk n2_; clear n0_ n1_ n2_ hbk hb hgs))
  have hi0 : w2.cell? ⟨gb, 0, none⟩ = some (.int .i64 op) := (blk_cell BKgb.out 0).trans rfl
  have hi1 : w2.cell? ⟨gb, 1, none⟩ = some (.int .i64 d) := (blk_cell BKgb.out 1).trans rfl
  have hi2 : w2.cell? ⟨gb, 2, none⟩ = some (.int .i64 a) := (blk_cell BKgb.out 2).trans rfl
  have hi3 : w2.cell? ⟨gb, 3, none⟩ = some (.int .i64 b) := (blk_cell BKgb.out 3).trans rfl
  have hi5 : w2.cell? ⟨gb, 5, none⟩ = some (.int .i64 imm) := (blk_cell BKgb.out 5).trans rfl
  have lt1 : gb < w2.heap.size := blk_lt BKgb.out
  have lt2 : gs < w2.heap.size := blk_lt BKgs.out
  rcases Bool.eq_false_or_eq_true (decide (op < 1)) with e1 | e1
  · go_wp2_with fail
    go_ret
    exact ⟨by simp [rightB, bad1, e1], by repeat (first | (with_reducible first | exact HB.out | apply below_alloc | apply pw_below_drewN | apply below_drew1) | exact HB.out)⟩
  rcases Bool.eq_false_or_eq_true (decide (12 < op)) with e2 | e2
  · go_wp2_with fail
    go_ret
    exact ⟨by simp [rightB, bad1, e1, e2], by repeat (first | (with_reducible first | exact HB.out | apply below_alloc | apply pw_below_drewN | apply below_drew1) | exact HB.out)⟩
  have o1 : 1 ≤ op := by simp at e1; omega
  have o2 : op ≤ 12 := by simp at e2; omega
  have hs0 : w2.cell? ⟨gs, op.toNat, none⟩ = some (.string (hasS op)) := has_cell BKgs.out op (by omega) (by omega)
  have HP := Aside0.mk (has_parts op o1 o2)
  go_upto_region 6 with (fail)
  go_cut [45] (fun v45 wc => v45 = .bool (bad1 op d a b imm) ∧ Aside0 (wc.heap[gb]? = some (.cells #[.int .i64 op, .int .i64 d, .int .i64 a, .int .i64 b, .int .i64 bin, .int .i64 imm] 25 (0, 0))) ∧ Aside0 (Below w.heap.size w wc))
  case first =>
    rcases Bool.eq_false_or_eq_true (regB (memB (hasS op).data.toList 68) d) with hd | hd
    · rcases Bool.eq_false_or_eq_true (regB (memB (hasS op).data.toList 65) a) with ha | ha
      · rcases Bool.eq_false_or_eq_true (regB (memB (hasS op).data.toList 66) b) with hb | hb
        · rcases Bool.eq_false_or_eq_true (memB (hasS op).data.toList 73) with hI | hI
          ·
            go_wp2_with (first
          | (go_at_call 23; (with_reducible refine (regc_calls 68 d op (hasS op) ⟨w2.heap.size + 1, 0, none⟩ ⟨w2.heap.size, 0, none⟩ ⟨gb, 0, none⟩ gs _ HP.out.2.2.2.2 (by omega) (by omega) (by decide) (by decide) (by go_simp) (by go_simp) (by go_simp) (by go_simp)).mono ?_); rintro e w' ⟨rfl, ⟨nd, rfl⟩⟩)
          | (go_at_call 23; (with_reducible refine (regc_calls 65 a op (hasS op) ⟨w2.heap.size + 1, 0, none⟩ ⟨w2.heap.size, 0, none⟩ ⟨gb, 0, none⟩ gs _ HP.out.2.2.2.2 (by omega) (by omega) (by decide) (by decide) (by go_simp) (by go_simp) (by go_simp) (by go_simp)).mono ?_); rintro e w' ⟨rfl, ⟨nd, rfl⟩⟩)
          | (go_at_call 23; (with_reducible refine (regc_calls 66 b op (hasS op) ⟨w2.heap.size + 1, 0, none⟩ ⟨w2.heap.size, 0, none⟩ ⟨gb, 0, none⟩ gs _ HP.out.2.2.2.2 (by omega) (by omega) (by decide) (by decide) (by go_simp) (by go_simp) (by go_simp) (by go_simp)).mono ?_); rintro e w' ⟨rfl, ⟨nd, rfl⟩⟩)
          | (go_at_call 22; (with_reducible refine (is_calls 73 op (hasS op) ⟨w2.heap.size, 0, none⟩ ⟨gb, 0, none⟩ gs _ HP.out.2.2.2.2 (by omega) (by omega) (by decide) (by decide) (by go_simp) (by go_simp) (by go_simp)).mono ?_); rintro e w' ⟨rfl, ⟨nd, rfl⟩⟩))
            go_meet
            case rel => exact ⟨by obtain ⟨h1, h2, h3, h4, _⟩ := HP.out; simp [bad1, ← h1, ← h2, ← h3, ← h4, e1, e2, hd, ha, hb, hI], ⟨by (with_reducible repeat (first | refine blk_drewN ?_ _ | refine blk_drew ?_ | refine blk_alloc ?_ _)); exact BKgb.out⟩, ⟨by repeat (first | (with_reducible first | exact HB.out | apply below_alloc | apply pw_below_drewN | apply below_drew1) | exact HB.out)⟩⟩
          · rcases Bool.eq_false_or_eq_true (imm != 0) with e3 | e3
            ·
              go_wp2_with (first
          | (go_at_call 23; (with_reducible refine (regc_calls 68 d op (hasS op) ⟨w2.heap.size + 1, 0, none⟩ ⟨w2.heap.size, 0, none⟩ ⟨gb, 0, none⟩ gs _ HP.out.2.2.2.2 (by omega) (by omega) (by decide) (by decide) (by go_simp) (by go_simp) (by go_simp) (by go_simp)).mono ?_); rintro e w' ⟨rfl, ⟨nd, rfl⟩⟩)
          | (go_at_call 23; (with_reducible refine (regc_calls 65 a op (hasS op) ⟨w2.heap.size + 1, 0, none⟩ ⟨w2.heap.size, 0, none⟩ ⟨gb, 0, none⟩ gs _ HP.out.2.2.2.2 (by omega) (by omega) (by decide) (by decide) (by go_simp) (by go_simp) (by go_simp) (by go_simp)).mono ?_); rintro e w' ⟨rfl, ⟨nd, rfl⟩⟩)
          | (go_at_call 23; (with_reducible refine (regc_calls 66 b op (hasS op) ⟨w2.heap.size + 1, 0, none⟩ ⟨w2.heap.size, 0, none⟩ ⟨gb, 0, none⟩ gs _ HP.out.2.2.2.2 (by omega) (by omega) (by decide) (by decide) (by go_simp) (by go_simp) (by go_simp) (by go_simp)).mono ?_); rintro e w' ⟨rfl, ⟨nd, rfl⟩⟩)
          | (go_at_call 22; (with_reducible refine (is_calls 73 op (hasS op) ⟨w2.heap.size, 0, none⟩ ⟨gb, 0, none⟩ gs _ HP.out.2.2.2.2 (by omega) (by omega) (by decide) (by decide) (by go_simp) (by go_simp) (by go_simp)).mono ?_); rintro e w' ⟨rfl, ⟨nd, rfl⟩⟩))
              go_meet
              case rel => exact ⟨by obtain ⟨h1, h2, h3, h4, _⟩ := HP.out; simp [bad1, ← h1, ← h2, ← h3, ← h4, e1, e2, hd, ha, hb, hI, e3], ⟨by (with_reducible repeat (first | refine blk_drewN ?_ _ | refine blk_drew ?_ | refine blk_alloc ?_ _)); exact BKgb.out⟩, ⟨by repeat (first | (with_reducible first | exact HB.out | apply below_alloc | apply pw_below_drewN | apply below_drew1) | exact HB.out)⟩⟩
            ·
              go_wp2_with (first
          | (go_at_call 23; (with_reducible refine (regc_calls 68 d op (hasS op) ⟨w2.heap.size + 1, 0, none⟩ ⟨w2.heap.size, 0, none⟩ ⟨gb, 0, none⟩ gs _ HP.out.2.2.2.2 (by omega) (by omega) (by decide) (by decide) (by go_simp) (by go_simp) (by go_simp) (by go_simp)).mono ?_); rintro e w' ⟨rfl, ⟨nd, rfl⟩⟩)
          | (go_at_call 23; (with_reducible refine (regc_calls 65 a op (hasS op) ⟨w2.heap.size + 1, 0, none⟩ ⟨w2.heap.size, 0, none⟩ ⟨gb, 0, none⟩ gs _ HP.out.2.2.2.2 (by omega) (by omega) (by decide) (by decide) (by go_simp) (by go_simp) (by go_simp) (by go_simp)).mono ?_); rintro e w' ⟨rfl, ⟨nd, rfl⟩⟩)
          | (go_at_call 23; (with_reducible refine (regc_calls 66 b op (hasS op) ⟨w2.heap.size + 1, 0, none⟩ ⟨w2.heap.size, 0, none⟩ ⟨gb, 0, none⟩ gs _ HP.out.2.2.2.2 (by omega) (by omega) (by decide) (by decide) (by go_simp) (by go_simp) (by go_simp) (by go_simp)).mono ?_); rintro e w' ⟨rfl, ⟨nd, rfl⟩⟩)
          | (go_at_call 22; (with_reducible refine (is_calls 73 op (hasS op) ⟨w2.heap.size, 0, none⟩ ⟨gb, 0, none⟩ gs _ HP.out.2.2.2.2 (by omega) (by omega) (by decide) (by decide) (by go_simp) (by go_simp) (by go_simp)).mono ?_); rintro e w' ⟨rfl, ⟨nd, rfl⟩⟩))
              go_meet
              case rel => exact ⟨by obtain ⟨h1, h2, h3, h4, _⟩ := HP.out; simp [bad1, ← h1, ← h2, ← h3, ← h4, e1, e2, hd, ha, hb, hI, e3], ⟨by (with_reducible repeat (first | refine blk_drewN ?_ _ | refine blk_drew ?_ | refine blk_alloc ?_ _)); exact BKgb.out⟩, ⟨by repeat (first | (with_reducible first | exact HB.out | apply below_alloc | apply pw_below_drewN | apply below_drew1) | exact HB.out)⟩⟩
        ·
          go_wp2_with (first
          | (go_at_call 23; (with_reducible refine (regc_calls 68 d op (hasS op) ⟨w2.heap.size + 1, 0, none⟩ ⟨w2.heap.size, 0, none⟩ ⟨gb, 0, none⟩ gs _ HP.out.2.2.2.2 (by omega) (by omega) (by decide) (by decide) (by go_simp) (by go_simp) (by go_simp) (by go_simp)).mono ?_); rintro e w' ⟨rfl, ⟨nd, rfl⟩⟩)
          | (go_at_call 23; (with_reducible refine (regc_calls 65 a op (hasS op) ⟨w2.heap.size + 1, 0, none⟩ ⟨w2.heap.size, 0, none⟩ ⟨gb, 0, none⟩ gs _ HP.out.2.2.2.2 (by omega) (by omega) (by decide) (by decide) (by go_simp) (by go_simp) (by go_simp) (by go_simp)).mono ?_); rintro e w' ⟨rfl, ⟨nd, rfl⟩⟩)
          | (go_at_call 23; (with_reducible refine (regc_calls 66 b op (hasS op) ⟨w2.heap.size + 1, 0, none⟩ ⟨w2.heap.size, 0, none⟩ ⟨gb, 0, none⟩ gs _ HP.out.2.2.2.2 (by omega) (by omega) (by decide) (by decide) (by go_simp) (by go_simp) (by go_simp) (by go_simp)).mono ?_); rintro e w' ⟨rfl, ⟨nd, rfl⟩⟩)
          | (go_at_call 22; (with_reducible refine (is_calls 73 op (hasS op) ⟨w2.heap.size, 0, none⟩ ⟨gb, 0, none⟩ gs _ HP.out.2.2.2.2 (by omega) (by omega) (by decide) (by decide) (by go_simp) (by go_simp) (by go_simp)).mono ?_); rintro e w' ⟨rfl, ⟨nd, rfl⟩⟩))
          go_meet
          case rel => exact ⟨by obtain ⟨h1, h2, h3, h4, _⟩ := HP.out; simp [bad1, ← h1, ← h2, ← h3, ← h4, e1, e2, hd, ha, hb], ⟨by (with_reducible repeat (first | refine blk_drewN ?_ _ | refine blk_drew ?_ | refine blk_alloc ?_ _)); exact BKgb.out⟩, ⟨by repeat (first | (with_reducible first | exact HB.out | apply below_alloc | apply pw_below_drewN | apply below_drew1) | exact HB.out)⟩⟩
      ·
        go_wp2_with (first
          | (go_at_call 23; (with_reducible refine (regc_calls 68 d op (hasS op) ⟨w2.heap.size + 1, 0, none⟩ ⟨w2.heap.size, 0, none⟩ ⟨gb, 0, none⟩ gs _ HP.out.2.2.2.2 (by omega) (by omega) (by decide) (by decide) (by go_simp) (by go_simp) (by go_simp) (by go_simp)).mono ?_); rintro e w' ⟨rfl, ⟨nd, rfl⟩⟩)
          | (go_at_call 23; (with_reducible refine (regc_calls 65 a op (hasS op) ⟨w2.heap.size + 1, 0, none⟩ ⟨w2.heap.size, 0, none⟩ ⟨gb, 0, none⟩ gs _ HP.out.2.2.2.2 (by omega) (by omega) (by decide) (by decide) (by go_simp) (by go_simp) (by go_simp) (by go_simp)).mono ?_); rintro e w' ⟨rfl, ⟨nd, rfl⟩⟩)
          | (go_at_call 23; (with_reducible refine (regc_calls 66 b op (hasS op) ⟨w2.heap.size + 1, 0, none⟩ ⟨w2.heap.size, 0, none⟩ ⟨gb, 0, none⟩ gs _ HP.out.2.2.2.2 (by omega) (by omega) (by decide) (by decide) (by go_simp) (by go_simp) (by go_simp) (by go_simp)).mono ?_); rintro e w' ⟨rfl, ⟨nd, rfl⟩⟩)
          | (go_at_call 22; (with_reducible refine (is_calls 73 op (hasS op) ⟨w2.heap.size, 0, none⟩ ⟨gb, 0, none⟩ gs _ HP.out.2.2.2.2 (by omega) (by omega) (by decide) (by decide) (by go_simp) (by go_simp) (by go_simp)).mono ?_); rintro e w' ⟨rfl, ⟨nd, rfl⟩⟩))
        go_meet
        case rel => exact ⟨by obtain ⟨h1, h2, h3, h4, _⟩ := HP.out; simp [bad1, ← h1, ← h2, ← h3, ← h4, e1, e2, hd, ha], ⟨by (with_reducible repeat (first | refine blk_drewN ?_ _ | refine blk_drew ?_ | refine blk_alloc ?_ _)); exact BKgb.out⟩, ⟨by repeat (first | (with_reducible first | exact HB.out | apply below_alloc | apply pw_below_drewN | apply below_drew1) | exact HB.out)⟩⟩
    ·
      go_wp2_with (first
          | (go_at_call 23; (with_reducible refine (regc_calls 68 d op (hasS op) ⟨w2.heap.size + 1, 0, none⟩ ⟨w2.heap.size, 0, none⟩ ⟨gb, 0, none⟩ gs _ HP.out.2.2.2.2 (by omega) (by omega) (by decide) (by decide) (by go_simp) (by go_simp) (by go_simp) (by go_simp)).mono ?_); rintro e w' ⟨rfl, ⟨nd, rfl⟩⟩)
          | (go_at_call 23; (with_reducible refine (regc_calls 65 a op (hasS op) ⟨w2.heap.size + 1, 0, none⟩ ⟨w2.heap.size, 0, none⟩ ⟨gb, 0, none⟩ gs _ HP.out.2.2.2.2 (by omega) (by omega) (by decide) (by decide) (by go_simp) (by go_simp) (by go_simp) (by go_simp)).mono ?_); rintro e w' ⟨rfl, ⟨nd, rfl⟩⟩)
          | (go_at_call 23; (with_reducible refine (regc_calls 66 b op (hasS op) ⟨w2.heap.size + 1, 0, none⟩ ⟨w2.heap.size, 0, none⟩ ⟨gb, 0, none⟩ gs _ HP.out.2.2.2.2 (by omega) (by omega) (by decide) (by decide) (by go_simp) (by go_simp) (by go_simp) (by go_simp)).mono ?_); rintro e w' ⟨rfl, ⟨nd, rfl⟩⟩)
          | (go_at_call 22; (with_reducible refine (is_calls 73 op (hasS op) ⟨w2.heap.size, 0, none⟩ ⟨gb, 0, none⟩ gs _ HP.out.2.2.2.2 (by omega) (by omega) (by decide) (by decide) (by go_simp) (by go_simp) (by go_simp)).mono ?_); rintro e w' ⟨rfl, ⟨nd, rfl⟩⟩))
      go_meet
      case rel => exact ⟨by obtain ⟨h1, h2, h3, h4, _⟩ := HP.out; simp [bad1, ← h1, ← h2, ← h3, ← h4, e1, e2, hd], ⟨by (with_reducible repeat (first | refine blk_drewN ?_ _ | refine blk_drew ?_ | refine blk_alloc ?_ _)); exact BKgb.out⟩, ⟨by repeat (first | (with_reducible first | exact HB.out | apply below_alloc | apply pw_below_drewN | apply below_drew1) | exact HB.out)⟩⟩
  case rest =>
    obtain ⟨rfl, BKgb, HB⟩ := hcut
    clear hi0 hi1 hi2 hi3 hi5 hs0
    rcases Bool.eq_false_or_eq_true (bad1 op d a b imm) with b1 | b1
    · rw [b1]
      have B0 := Aside0.mk b1
      clear b1
      go_wp2
      go_ret
      exact ⟨by simp [rightB, B0.out], by repeat (first | (with_reducible first | exact HB.out | apply below_alloc | apply pw_below_drewN | apply below_drew1) | exact HB.out)⟩
    rw [b1]
    have B1 := Aside0.mk b1
    clear b1
    go_upto_region 8 with (fail)
    go_cut [68] (fun v68 wc => v68 = .bool (bad2 op bin) ∧ Aside0 (wc.heap[gb]? = some (.cells #[.int .i64 op, .int .i64 d, .int .i64 a, .int .i64 b, .int .i64 bin, .int .i64 imm] 25 (0, 0))) ∧ Aside0 (Below w.heap.size w wc))
    case first =>
      have hczgb_0 : wc.cell? ⟨gb, 0, none⟩ = some (.int .i64 op) := (blk_cell BKgb.out 0).trans rfl; have hfzgb_0 := blk_frozen BKgb.out 0; have hczgb_1 : wc.cell? ⟨gb, 1, none⟩ = some (.int .i64 d) := (blk_cell BKgb.out 1).trans rfl; have hfzgb_1 := blk_frozen BKgb.out 1; have hczgb_2 : wc.cell? ⟨gb, 2, none⟩ = some (.int .i64 a) := (blk_cell BKgb.out 2).trans rfl; have hfzgb_2 := blk_frozen BKgb.out 2; have hczgb_3 : wc.cell? ⟨gb, 3, none⟩ = some (.int .i64 b) := (blk_cell BKgb.out 3).trans rfl; have hfzgb_3 := blk_frozen BKgb.out 3; have hczgb_4 : wc.cell? ⟨gb, 4, none⟩ = some (.int .i64 bin) := (blk_cell BKgb.out 4).trans rfl; have hfzgb_4 := blk_frozen BKgb.out 4; have hczgb_5 : wc.cell? ⟨gb, 5, none⟩ = some (.int .i64 imm) := (blk_cell BKgb.out 5).trans rfl; have hfzgb_5 := blk_frozen BKgb.out 5
      rcases Bool.eq_false_or_eq_true (op == 3) with e3 | e3
      · have e4 : (op != 3) = false := by simpa using e3
        rcases Bool.eq_false_or_eq_true (decide (bin < 1)) with e5 | e5
        · have e7 : knownB bin = false := by simp at e5; simp [knownB]; omega
          go_wp2_with fail
          go_meet
          case rel => exact ⟨by simp [bad2, e3, e4, e7], BKgb, ⟨by repeat (first | (with_reducible first | exact HB.out | apply below_alloc | apply pw_below_drewN | apply below_drew1) | exact HB.out)⟩⟩
        · rcases Bool.eq_false_or_eq_true (decide (15 < bin)) with e6 | e6
          · have e7 : knownB bin = false := by simp at e6; simp [knownB]; omega
            go_wp2_with fail
            go_meet
            case rel => exact ⟨by simp [bad2, e3, e4, e7], BKgb, ⟨by repeat (first | (with_reducible first | exact HB.out | apply below_alloc | apply pw_below_drewN | apply below_drew1) | exact HB.out)⟩⟩
          · have e7 : knownB bin = true := by simp at e5 e6; simp [knownB]; omega
            go_wp2_with fail
            go_meet
            case rel => exact ⟨by simp [bad2, e3, e4, e7], BKgb, ⟨by repeat (first | (with_reducible first | exact HB.out | apply below_alloc | apply pw_below_drewN | apply below_drew1) | exact HB.out)⟩⟩
      · have e4 : (op != 3) = true := by simpa using e3
        rcases Bool.eq_false_or_eq_true (bin != 0) with e5 | e5
        ·
          go_wp2_with fail
          go_meet
          case rel => exact ⟨by simp [bad2, e3, e4, e5], BKgb, ⟨by repeat (first | (with_reducible first | exact HB.out | apply below_alloc | apply pw_below_drewN | apply below_drew1) | exact HB.out)⟩⟩
        · have e7 : knownB bin = false := by simp at e5; simp [knownB]; omega
          go_wp2_with fail
          go_meet
          case rel => exact ⟨by simp [bad2, e3, e4, e5, e7], BKgb, ⟨by repeat (first | (with_reducible first | exact HB.out | apply below_alloc | apply pw_below_drewN | apply below_drew1) | exact HB.out)⟩⟩
    case rest =>
      obtain ⟨rfl, BKgb, HB⟩ := hcut
      rcases Bool.eq_false_or_eq_true (bad2 op bin) with b2 | b2
      · rw [b2]
        have B0 := Aside0.mk b2
        clear b2
        go_wp2
        go_ret
        exact ⟨by simp [rightB, B0.out], by repeat (first | (with_reducible first | exact HB.out | apply below_alloc | apply pw_below_drewN | apply below_drew1) | exact HB.out)⟩
      rw [b2]
      have B2 := Aside0.mk b2
      clear b2
      go_upto_region 10 with (fail)
      go_cut [91] (fun v91 wc => v91 = .bool (bad3 op imm) ∧ Aside0 (wc.heap[gb]? = some (.cells #[.int .i64 op, .int .i64 d, .int .i64 a, .int .i64 b, .int .i64 bin, .int .i64 imm] 25 (0, 0))) ∧ Aside0 (Below w.heap.size w wc))
      case first =>
        have hczgb_0 : wc.cell? ⟨gb, 0, none⟩ = some (.int .i64 op) := (blk_cell BKgb.out 0).trans rfl; have hfzgb_0 := blk_frozen BKgb.out 0; have hczgb_1 : wc.cell? ⟨gb, 1, none⟩ = some (.int .i64 d) := (blk_cell BKgb.out 1).trans rfl; have hfzgb_1 := blk_frozen BKgb.out 1; have hczgb_2 : wc.cell? ⟨gb, 2, none⟩ = some (.int .i64 a) := (blk_cell BKgb.out 2).trans rfl; have hfzgb_2 := blk_frozen BKgb.out 2; have hczgb_3 : wc.cell? ⟨gb, 3, none⟩ = some (.int .i64 b) := (blk_cell BKgb.out 3).trans rfl; have hfzgb_3 := blk_frozen BKgb.out 3; have hczgb_4 : wc.cell? ⟨gb, 4, none⟩ = some (.int .i64 bin) := (blk_cell BKgb.out 4).trans rfl; have hfzgb_4 := blk_frozen BKgb.out 4; have hczgb_5 : wc.cell? ⟨gb, 5, none⟩ = some (.int .i64 imm) := (blk_cell BKgb.out 5).trans rfl; have hfzgb_5 := blk_frozen BKgb.out 5
        have e10 : decide (32767 < imm) = decide (32768 ≤ imm) := by rw [Bool.eq_iff_iff]; simp; omega
        have E10 := Aside0.mk e10
        clear e10
        rcases Bool.eq_false_or_eq_true (op == 6) with e6 | e6
        · rcases Bool.eq_false_or_eq_true (decide (imm < 0)) with e9 | e9
          ·
            go_wp2_with fail
            go_meet
            case rel => exact ⟨by simp [bad3, e6, e9], BKgb, ⟨by repeat (first | (with_reducible first | exact HB.out | apply below_alloc | apply pw_below_drewN | apply below_drew1) | exact HB.out)⟩⟩
          ·
            go_wp2_with fail
            go_meet
            case rel => exact ⟨by simp only [E10.out]; simp [bad3, e6, e9], BKgb, ⟨by repeat (first | (with_reducible first | exact HB.out | apply below_alloc | apply pw_below_drewN | apply below_drew1) | exact HB.out)⟩⟩
        · rcases Bool.eq_false_or_eq_true (op == 7) with e7 | e7
          · rcases Bool.eq_false_or_eq_true (decide (imm < 0)) with e9 | e9
            ·
              go_wp2_with fail
              go_meet
              case rel => exact ⟨by simp [bad3, e6, e7, e9], BKgb, ⟨by repeat (first | (with_reducible first | exact HB.out | apply below_alloc | apply pw_below_drewN | apply below_drew1) | exact HB.out)⟩⟩
            ·
              go_wp2_with fail
              go_meet
              case rel => exact ⟨by simp only [E10.out]; simp [bad3, e6, e7, e9], BKgb, ⟨by repeat (first | (with_reducible first | exact HB.out | apply below_alloc | apply pw_below_drewN | apply below_drew1) | exact HB.out)⟩⟩
          · rcases Bool.eq_false_or_eq_true (op == 8) with e8 | e8
            · rcases Bool.eq_false_or_eq_true (decide (imm < 0)) with e9 | e9
              ·
                go_wp2_with fail
                go_meet
                case rel => exact ⟨by simp [bad3, e6, e7, e8, e9], BKgb, ⟨by repeat (first | (with_reducible first | exact HB.out | apply below_alloc | apply pw_below_drewN | apply below_drew1) | exact HB.out)⟩⟩
              ·
                go_wp2_with fail
                go_meet
                case rel => exact ⟨by simp only [E10.out]; simp [bad3, e6, e7, e8, e9], BKgb, ⟨by repeat (first | (with_reducible first | exact HB.out | apply below_alloc | apply pw_below_drewN | apply below_drew1) | exact HB.out)⟩⟩
            ·
              go_wp2_with fail
              go_meet
              case rel => exact ⟨by simp [bad3, e6, e7, e8], BKgb, ⟨by repeat (first | (with_reducible first | exact HB.out | apply below_alloc | apply pw_below_drewN | apply below_drew1) | exact HB.out)⟩⟩
      case rest =>
        obtain ⟨rfl, BKgb, HB⟩ := hcut
        rcases Bool.eq_false_or_eq_true (bad3 op imm) with b3 | b3
        · rw [b3]
          have B0 := Aside0.mk b3
          clear b3
          go_wp2
          go_ret
          exact ⟨by simp [rightB, B0.out], by repeat (first | (with_reducible first | exact HB.out | apply below_alloc | apply pw_below_drewN | apply below_drew1) | exact HB.out)⟩
        rw [b3]
        have B3 := Aside0.mk b3
        clear b3
        have hczgb_0 : wc.cell? ⟨gb, 0, none⟩ = some (.int .i64 op) := (blk_cell BKgb.out 0).trans rfl; have hfzgb_0 := blk_frozen BKgb.out 0; have hczgb_1 : wc.cell? ⟨gb, 1, none⟩ = some (.int .i64 d) := (blk_cell BKgb.out 1).trans rfl; have hfzgb_1 := blk_frozen BKgb.out 1; have hczgb_2 : wc.cell? ⟨gb, 2, none⟩ = some (.int .i64 a) := (blk_cell BKgb.out 2).trans rfl; have hfzgb_2 := blk_frozen BKgb.out 2; have hczgb_3 : wc.cell? ⟨gb, 3, none⟩ = some (.int .i64 b) := (blk_cell BKgb.out 3).trans rfl; have hfzgb_3 := blk_frozen BKgb.out 3; have hczgb_4 : wc.cell? ⟨gb, 4, none⟩ = some (.int .i64 bin) := (blk_cell BKgb.out 4).trans rfl; have hfzgb_4 := blk_frozen BKgb.out 4; have hczgb_5 : wc.cell? ⟨gb, 5, none⟩ = some (.int .i64 imm) := (blk_cell BKgb.out 5).trans rfl; have hfzgb_5 := blk_frozen BKgb.out 5
        have f1 : decide (imm < 1) = !decide (1 ≤ imm) := by rw [Bool.eq_iff_iff]; simp
        have f2 : decide (3 < imm) = !decide (imm ≤ 3) := by rw [Bool.eq_iff_iff]; simp
        have F1 := Aside0.mk f1
        have F2 := Aside0.mk f2
        clear f1 f2
        rcases Bool.eq_false_or_eq_true (op == 12) with e6 | e6
        · have e4 : (op != 12) = false := by simpa using e6
          rcases Bool.eq_false_or_eq_true (decide (1 ≤ imm)) with e9 | e9
          · rcases Bool.eq_false_or_eq_true (decide (imm ≤ 3)) with e8 | e8
            · go_wp2
              go_ret
              exact ⟨by simp only [rightB, B1.out, B2.out, B3.out, bad4, F1.out, F2.out, e6, e9, e8]; rfl, by repeat (first | (with_reducible first | exact HB.out | apply below_alloc | apply pw_below_drewN | apply below_drew1) | exact HB.out)⟩
            · go_wp2
              go_ret
              exact ⟨by simp only [rightB, B1.out, B2.out, B3.out, bad4, F1.out, F2.out, e6, e9, e8]; rfl, by repeat (first | (with_reducible first | exact HB.out | apply below_alloc | apply pw_below_drewN | apply below_drew1) | exact HB.out)⟩
          · go_wp2
            go_ret
            exact ⟨by simp only [rightB, B1.out, B2.out, B3.out, bad4, F1.out, F2.out, e6, e9]; rfl, by repeat (first | (with_reducible first | exact HB.out | apply below_alloc | apply pw_below_drewN | apply below_drew1) | exact HB.out)⟩
        · have e4 : (op != 12) = true := by simpa using e6
          go_wp2
          go_ret
          exact ⟨by simp only [rightB, B1.out, B2.out, B3.out, bad4, F1.out, F2.out, e6]; rfl, by repeat (first | (with_reducible first | exact HB.out | apply below_alloc | apply pw_below_drewN | apply below_drew1) | exact HB.out)⟩

/-- In the form in which the printed functions ask for it. -/
def palingslaw17_right.f (k : Nat) (a0_0 : Int) (a0_1 : Int) (a0_2 : Int) (a0_3 : Int) (a0_4 : Int) (a0_5 : Int) : Option (Bool) := some (rightB a0_0 a0_1 a0_2 a0_3 a0_4 a0_5)
theorem palingslaw17_right.mono : ∀ a0 a1 a2 a3 a4 a5 k, LeO (palingslaw17_right.f k a0 a1 a2 a3 a4 a5) (palingslaw17_right.f (k + 1) a0 a1 a2 a3 a4 a5) := fun _ _ _ _ _ _ _ => LeO.refl _
theorem palingslaw17_right.calls (k : Nat) (a0_0 : Int) (a0_1 : Int) (a0_2 : Int) (a0_3 : Int) (a0_4 : Int) (a0_5 : Int) (r : Bool) (w : World) (h : palingslaw17_right.f k a0_0 a0_1 a0_2 a0_3 a0_4 a0_5 = some r) :
    Calls Try.prog 11 #[.agg #[.int .i64 a0_0, .int .i64 a0_1, .int .i64 a0_2, .int .i64 a0_3, .int .i64 a0_4, .int .i64 a0_5]] w fun e w' => e = .returned (.bool r) ∧ Below w.heap.size w w' := by
  obtain rfl := Option.some.inj h
  exact rightlaw_calls _ _ _ _ _ _ w
end Go.Proofs.Ytapiapkdiggboaa.B
