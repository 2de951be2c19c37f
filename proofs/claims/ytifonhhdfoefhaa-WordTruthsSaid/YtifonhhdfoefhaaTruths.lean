/- What is equal, less, below, is told rightly of every pair of words: the walk of the law, and its facts. -/
import Derived.Test.YtifonhhdfoefhaaPWordTruthsx0
import Derived.Test.YtifonhhdfoefhaaPWordTruthsx1
import Derived.Test.YtifonhhdfoefhaaMine
namespace Go.Proofs.Ytifonhhdfoefhaa.Truths
open Go.RowKit Go.Proofs.Ytifonhhdfoefhaa.PWordTruths Go.Proofs.Ytifonhhdfoefhaa.Mine Go.Proofs.YtifonhhdfoefhaaW.PrintWords Go.Proofs.YtifonhhdfoefhaaW.PrintLast Go.Proofs.YtifonhhdfoefhaaW.PrintMore
set_option linter.unusedSimpArgs false
set_option linter.unusedVariables false

theorem u64_wrap (n : Int) : IntKind.u64.wrap n = n % 18446744073709551616 := by
  simp [IntKind.wrap, IntKind.bits, IntKind.signed]

theorem xor_flip (x : Nat) (h : x < 2 ^ 64) : (x ^^^ 2 ^ 63) = (x + 2 ^ 63) % 2 ^ 64 := by
  have hd : (x ^^^ 2 ^ 63) / 2 ^ 63 = (x / 2 ^ 63) ^^^ (2 ^ 63 / 2 ^ 63) := Nat.xor_div_two_pow
  have hm : (x ^^^ 2 ^ 63) % 2 ^ 63 = (x % 2 ^ 63) ^^^ (2 ^ 63 % 2 ^ 63) := Nat.xor_mod_two_pow
  rw [show 2 ^ 63 % 2 ^ 63 = 0 by decide, Nat.xor_zero] at hm
  rw [show 2 ^ 63 / 2 ^ 63 = 1 by decide] at hd
  have hq : x / 2 ^ 63 = 0 ∨ x / 2 ^ 63 = 1 := by omega
  rcases hq with hq | hq
  · rw [hq, show 0 ^^^ 1 = 1 by decide] at hd; omega
  · rw [hq, show 1 ^^^ 1 = 0 by decide] at hd; omega

theorem bits_flip (x : Nat) (h : x < 2 ^ 64) : Go.bits .xor .u64 (x : Int) 9223372036854775808 = (((x + 2 ^ 63) % 2 ^ 64 : Nat) : Int) := by
  rw [← xor_flip x h]
  show IntKind.u64.wrap ((BitVec.ofInt 64 (x : Int) ^^^ BitVec.ofInt 64 ((9223372036854775808 : Nat) : Int)).toNat : Int) = _
  rw [BitVec.ofInt_natCast, BitVec.ofInt_natCast, BitVec.toNat_xor, BitVec.toNat_ofNat, BitVec.toNat_ofNat, Nat.mod_eq_of_lt h, Nat.mod_eq_of_lt (by decide : 9223372036854775808 < 2 ^ 64), u64_wrap]
  have : x ^^^ 9223372036854775808 < 2 ^ 64 := Nat.xor_lt_two_pow h (by decide)
  rw [show (9223372036854775808 : Nat) = 2 ^ 63 by rfl] at this ⊢
  omega

theorem flip_of (a : Int) (h : -9223372036854775808 ≤ a ∧ a ≤ 9223372036854775807) : Go.bits .xor .u64 (IntKind.u64.wrap a) 9223372036854775808 = a + 9223372036854775808 := by
  rw [u64_wrap]
  obtain ⟨x, hx⟩ := Int.eq_ofNat_of_zero_le (by omega : 0 ≤ a % 18446744073709551616)
  rw [hx, bits_flip x (by omega)]
  omega

theorem xor_zero_iff (a b : Int) (ha : -9223372036854775808 ≤ a ∧ a ≤ 9223372036854775807) (hb : -9223372036854775808 ≤ b ∧ b ≤ 9223372036854775807) :
    ((Go.bits .xor .i64 a b) == 0) = (a == b) := by
  have e : Go.bits .xor .i64 a b = IntKind.i64.wrap ((BitVec.ofInt 64 a ^^^ BitVec.ofInt 64 b).toNat : Int) := rfl
  rw [e, IntKind.wrap_i64, Bool.eq_iff_iff, beq_iff_eq, beq_iff_eq]
  have hlt := (BitVec.ofInt 64 a ^^^ BitVec.ofInt 64 b).isLt
  constructor
  · intro h
    have h0 : (BitVec.ofInt 64 a ^^^ BitVec.ofInt 64 b).toNat = 0 := by omega
    have h1 : BitVec.ofInt 64 a ^^^ BitVec.ofInt 64 b = 0#64 := BitVec.eq_of_toNat_eq (by rw [h0]; rfl)
    have h2 : BitVec.ofInt 64 a = BitVec.ofInt 64 b := BitVec.xor_eq_zero_iff.mp h1
    have h3 := congrArg BitVec.toInt h2
    rw [BitVec.toInt_ofInt, BitVec.toInt_ofInt] at h3
    simp only [Int.bmod] at h3
    omega
  · rintro rfl
    simp

def bz (b : Bool) : Int := if b then 1 else 0
theorem wbool (b : Bool) : word_Bool.f b = some (bz b) := by cases b <;> rfl

/-- what is asked of the five cases -/
def Fine (a b : Int) (l : List S34) : Prop := l.length = 5 ∧ ∀ i : Int, 0 ≤ i → i < 5 → word_Do.f 20 (rd_T34 l i).f0 a b = some (bz (rd_T34 l i).f1, true) ∧ word_Op_Truth.f (rd_T34 l i).f0 = some true

theorem fine (a b : Int) (e l s : Bool) (he : e = (a == b)) (hl : l = decide (a < b)) (hs : s = (l || e)) :
    Fine a b [⟨11, e⟩, ⟨12, !e⟩, ⟨13, l⟩, ⟨14, s⟩, ⟨15, decide (IntKind.u64.wrap a < IntKind.u64.wrap b)⟩] := by
  refine ⟨rfl, fun i h0 h1 => ?_⟩
  have hi : i = 0 ∨ i = 1 ∨ i = 2 ∨ i = 3 ∨ i = 4 := by omega
  rcases hi with rfl | rfl | rfl | rfl | rfl
  · exact ⟨by rw [he]; show (word_Bool.f (a == b)).bind _ = _; rw [wbool]; rfl, rfl⟩
  · exact ⟨by rw [he]; show (word_Bool.f (a != b)).bind _ = _; rw [wbool]; rfl, rfl⟩
  · exact ⟨by rw [hl]; show (word_Bool.f (decide (a < b))).bind _ = _; rw [wbool]; rfl, rfl⟩
  · have : s = decide (a ≤ b) := by
      rw [hs, hl, he, Bool.eq_iff_iff]; simp; omega
    exact ⟨by rw [this]; show (word_Bool.f (decide (a ≤ b))).bind _ = _; rw [wbool]; rfl, rfl⟩
  · exact ⟨by show (word_Bool.f (decide (IntKind.u64.wrap a < IntKind.u64.wrap b))).bind _ = _; rw [wbool]; rfl, rfl⟩

set_option maxHeartbeats 2000000 in
set_option maxRecDepth 100000 in
theorem truths (a0 a1 : Int) (l e s : Bool) (w : World)
    (hl : decide (Go.bits .xor .u64 (IntKind.u64.wrap a0) 9223372036854775808 < Go.bits .xor .u64 (IntKind.u64.wrap a1) 9223372036854775808) = l)
    (he : (Go.bits .xor .i64 a0 a1 == 0) = e) (hs : s = (l || e))
    (hf : Fine a0 a1 [⟨11, e⟩, ⟨12, !e⟩, ⟨13, l⟩, ⟨14, s⟩, ⟨15, decide (IntKind.u64.wrap a0 < IntKind.u64.wrap a1)⟩]) :
    Calls Try.prog 7 #[.int .i64 a0, .int .i64 a1] w fun e w' => e = .returned (.bool true) ∧ Below w.heap.size w w' := by
  have A1 := Aside0.mk (show palingslaw01_head.f 20 = some true by decide +kernel)
  have HB := Aside0.mk (Below.refl w.heap.size w)
  obtain ⟨xs, hxs⟩ : ∃ y : List S34, y = [⟨11, e⟩, ⟨12, !e⟩, ⟨13, l⟩, ⟨14, s⟩, ⟨15, decide (IntKind.u64.wrap a0 < IntKind.u64.wrap a1)⟩] := ⟨_, rfl⟩
  rw [← hxs] at hf
  have Nx := Aside0.mk hxs
  have HF := Aside0.mk hf
  clear hxs hf
  cases l
  · simp only [Bool.false_or] at hs
    replace hs := hs.symm
    subst hs
    go_enter Try.func7, Try.ntmps7
    go_wp2_with (first
      | ((with_reducible refine gate_callee (f := 8) rfl ?_); refine goesL_ (some 12) rfl rfl Try.func8 (by kernel_rfl) rfl #[] rfl (by (try simp only [List.map_toArray, List.map_cons, List.map_nil]); first | done | rfl | (simp only [List.length_drop, List.length_take]; rfl)) ?_; (with_reducible refine (palingslaw01_head.calls 20 true _ A1.out).mono ?_); rintro e w' ⟨rfl, ⟨nd, rfl⟩⟩; refine ⟨_, rfl, ?_⟩)
      | ((with_reducible refine gate_dst (N := 45) rfl ?_); refine Kd.R_lit k34 _ 34 ?hg (N := 45) ?hd (xs := [(⟨11, e⟩ : S34), (⟨12, !e⟩ : S34), (⟨13, false⟩ : S34), (⟨14, e⟩ : S34), (⟨15, decide (IntKind.u64.wrap a0 < IntKind.u64.wrap a1)⟩ : S34)]) (inner := [.int .i64 11, .bool (e), .int .i64 12, .bool (!e), .int .i64 13, .bool (false), .int .i64 14, .bool (e), .int .i64 15, .bool (decide (IntKind.u64.wrap a0 < IntKind.u64.wrap a1))]) (ok := fun _ => True) (okp := fun _ => True) ?hr ?hp (fun _ hk => hk) trivial (Below.refl _ _) (Nat.le_refl _) (by simp) ?_; (case hd => rfl); (case hg => rfl); (case hr => first | (go_simp; done) | (go_simp; rfl)); (case hp => exact (Reps.c2 (show Kd.M k34 _ _ _ (⟨11, e⟩ : S34) [.int .i64 11, .bool (e)] from (k34_mkM _ _ _ (⟨11, e⟩ : S34))) (Reps.c2 (show Kd.M k34 _ _ _ (⟨12, !e⟩ : S34) [.int .i64 12, .bool (!e)] from (k34_mkM _ _ _ (⟨12, !e⟩ : S34))) (Reps.c2 (show Kd.M k34 _ _ _ (⟨13, false⟩ : S34) [.int .i64 13, .bool (false)] from (k34_mkM _ _ _ (⟨13, false⟩ : S34))) (Reps.c2 (show Kd.M k34 _ _ _ (⟨14, e⟩ : S34) [.int .i64 14, .bool (e)] from (k34_mkM _ _ _ (⟨14, e⟩ : S34))) (Reps.c2 (show Kd.M k34 _ _ _ (⟨15, decide (IntKind.u64.wrap a0 < IntKind.u64.wrap a1)⟩ : S34) [.int .i64 15, .bool (decide (IntKind.u64.wrap a0 < IntKind.u64.wrap a1))] from (k34_mkM _ _ _ (⟨15, decide (IntKind.u64.wrap a0 < IntKind.u64.wrap a1)⟩ : S34))) (Reps.none _ _))))))); intro v114 w7 ho8 hb hg_ hnew_; clear hg_ hnew_; rw [← Nx.out] at ho8; have n0_ := Aside0.mk (Kd.R_lower ho8 (below_size (by repeat (first | (with_reducible first | exact HB.out | apply below_alloc | apply pw_below_drewN | apply below_drew1) | exact HB.out)))); have n1_ := Aside0.mk (below_step (by repeat (first | (with_reducible first | exact HB.out | apply below_alloc | apply pw_below_drewN | apply below_drew1) | exact HB.out)) hb); clear HB; have HO := n0_; have HB := n1_; clear n0_ n1_; clear hb ho8; obtain ⟨Ao, co, eo⟩ := Kd.R_slice HO.out; subst eo))
    go_loopg [47] 10 (fun kq v47 w' => ∃ x : Int, v47 = .int .i64 x ∧ 0 ≤ x ∧ Aside0 (x + kq = 10) ∧ x ≤ 5 ∧ Aside0 (Kd.R k34 34 w' w.heap.size (fun _ => True) (.slice Ao xs.length co) xs) ∧ Aside0 (Below w.heap.size w w'))
    case atStart => exact ⟨0, rfl, by omega, ⟨by omega⟩, by omega, ⟨by (with_reducible repeat (first | apply Kd.R_alloc | apply Kd.R_drewN | apply Kd.R_drew)); exact HO.out⟩, ⟨by repeat (first | (with_reducible first | exact HB.out | apply below_alloc | apply pw_below_drewN | apply below_drew1) | exact HB.out)⟩⟩
    case round =>
      clear HO HB
      obtain ⟨x, rfl, hx0, hxk, hx5, HO, HB⟩ := hrel
      by_cases hlt : x < 5
      · obtain ⟨hd0, ht0⟩ := HF.out.2 x hx0 hlt
        have A2 := Aside0.mk hd0
        have A3 := Aside0.mk ht0
        have A4 := Aside0.mk (wbool (rd_T34 xs x).f1)
        have hlen := HF.out.1
        have c5 : decide (x < (xs.length : Int)) = true := by rw [hlen]; simp; omega
        clear hd0 ht0
        have p1 : 0 ≤ (x : Int) := hx0
        have q1 : x < (xs.length : Int) := by omega
        obtain ⟨ad, e1, hx_0, hx_1⟩ := at_T34 (Kd.R_reads' HO.out).2.2 x p1 q1
        cases e1
        have hw : wrap64 (x + 1) = x + 1 := by unfold wrap64; omega
        have HW := Aside0.mk hw
        clear hlen hw
        replace p1 := eq_true p1
        replace q1 := eq_true q1
        rcases Bool.eq_false_or_eq_true (rd_T34 xs x).f1 with hv | hv
        all_goals
          have c6 : (bz (rd_T34 xs x).f1 != bz (rd_T34 xs x).f1) = false := by simp
          rw [hv] at A2 A4 c6 hx_1
          simp only [bz, if_true, Bool.false_eq_true, if_false] at A2 A4 c6
          go_wp2_with (first
            | ((with_reducible refine gate_dst (N := 9) rfl ?_); refine box_event ?hg (N := 9) ?hd (cs := #[.int .i64 0, .bool false]) (t := 34) ?hr ?_; (case hd => rfl); (case hg => rfl); (case hr => first | (go_simp; done) | (go_simp; rfl)); intro gb hg w24 hbox hb; have n0_ := Aside0.mk (Kd.R_below (Kd.R_elderB (by (with_reducible repeat (first | apply Kd.R_alloc | apply Kd.R_drewN | apply Kd.R_drew)); exact HO.out) gb (Nat.le_of_eq hg.symm)) hb); have n1_ := Aside0.mk (below_step (by repeat (first | (with_reducible first | exact HB.out | apply below_alloc | apply pw_below_drewN | apply below_drew1) | exact HB.out)) hb); have n2_ := Aside0.mk (hbox); have n3_ := Aside0.mk ((by rw [hg]; exact (below_size (by repeat (first | (with_reducible first | exact HB.out | apply below_alloc | apply pw_below_drewN | apply below_drew1) | exact HB.out)))) : w.heap.size ≤ gb); clear HO HB; have HO := n0_; have HB := n1_; have BK := n2_; have GE := n3_; clear n0_ n1_ n2_ n3_; clear hb hbox hg; have hcz_0 : w24.cell? ⟨gb, 0, none⟩ = some (.int .i64 0) := (blk_cell BK.out 0).trans rfl; have hcz_1 : w24.cell? ⟨gb, 1, none⟩ = some (.bool false) := (blk_cell BK.out 1).trans rfl; have hfz_0 := blk_frozen BK.out 0; have hfz_1 := blk_frozen BK.out 1)
            | ((with_reducible refine gate_callee (f := 9) rfl ?_); refine goesL_ (some 56) rfl rfl Try.func9 (by kernel_rfl) rfl #[.int .i64 (rd_T34 xs x).f0, .int .i64 a0, .int .i64 a1] rfl (by (try simp only [List.map_toArray, List.map_cons, List.map_nil]); first | done | rfl | (simp only [List.length_drop, List.length_take]; rfl)) ?_; (with_reducible refine (word_Do.calls 20 (rd_T34 xs x).f0 a0 a1 _ true _ A2.out).mono ?_); rintro e w' ⟨rfl, ⟨nd, rfl⟩⟩; refine ⟨_, rfl, ?_⟩)
            | (go_at_call 13; (with_reducible refine (word_Bool.calls _ _ _ A4.out).mono ?_); rintro e w' ⟨rfl, ⟨nd, rfl⟩⟩)
            | (go_at_call 14; (with_reducible refine (word_Op_Truth.calls (rd_T34 xs x).f0 true _ A3.out).mono ?_); rintro e w' ⟨rfl, ⟨nd, rfl⟩⟩))
          go_roundg (gk - 1)
          case measure => have := hxk.out; omega
          case rel => exact ⟨x + 1, rfl, by omega, ⟨by have := hxk.out; omega⟩, by omega, ⟨by (with_reducible repeat (first | apply Kd.R_alloc | apply Kd.R_drewN | apply Kd.R_drew)); exact Kd.R_mono (Kd.R_far (p := ⟨gb, 1, none⟩) (Kd.R_far (p := ⟨gb, 0, none⟩) (Kd.R_mono HO.out (fun k_ hk => (⟨hk, hk.2⟩ : _ ∧ k_ ≠ gb))) (fun _ hk => hk.2) _) (fun _ hk => hk.2) _) (fun _ hk => trivial)⟩, ⟨by repeat (first | (with_reducible first | exact HB.out | apply below_alloc | apply pw_below_drewN | apply below_drew1 | refine below_set ?_ GE.out) | exact HB.out)⟩⟩
      · have hlen := HF.out.1
        have c5 : decide (x < (xs.length : Int)) = false := by rw [hlen]; simp; omega
        clear hlen
        go_wp2
        go_ret
        exact ⟨rfl, by repeat (first | (with_reducible first | exact HB.out | apply below_alloc | apply pw_below_drewN | apply below_drew1) | exact HB.out)⟩
  · simp only [Bool.true_or] at hs
    replace hs := hs.symm
    subst hs
    go_enter Try.func7, Try.ntmps7
    go_wp2_with (first
      | ((with_reducible refine gate_callee (f := 8) rfl ?_); refine goesL_ (some 12) rfl rfl Try.func8 (by kernel_rfl) rfl #[] rfl (by (try simp only [List.map_toArray, List.map_cons, List.map_nil]); first | done | rfl | (simp only [List.length_drop, List.length_take]; rfl)) ?_; (with_reducible refine (palingslaw01_head.calls 20 true _ A1.out).mono ?_); rintro e w' ⟨rfl, ⟨nd, rfl⟩⟩; refine ⟨_, rfl, ?_⟩)
      | ((with_reducible refine gate_dst (N := 45) rfl ?_); refine Kd.R_lit k34 _ 34 ?hg (N := 45) ?hd (xs := [(⟨11, e⟩ : S34), (⟨12, !e⟩ : S34), (⟨13, true⟩ : S34), (⟨14, true⟩ : S34), (⟨15, decide (IntKind.u64.wrap a0 < IntKind.u64.wrap a1)⟩ : S34)]) (inner := [.int .i64 11, .bool (e), .int .i64 12, .bool (!e), .int .i64 13, .bool (true), .int .i64 14, .bool (true), .int .i64 15, .bool (decide (IntKind.u64.wrap a0 < IntKind.u64.wrap a1))]) (ok := fun _ => True) (okp := fun _ => True) ?hr ?hp (fun _ hk => hk) trivial (Below.refl _ _) (Nat.le_refl _) (by simp) ?_; (case hd => rfl); (case hg => rfl); (case hr => first | (go_simp; done) | (go_simp; rfl)); (case hp => exact (Reps.c2 (show Kd.M k34 _ _ _ (⟨11, e⟩ : S34) [.int .i64 11, .bool (e)] from (k34_mkM _ _ _ (⟨11, e⟩ : S34))) (Reps.c2 (show Kd.M k34 _ _ _ (⟨12, !e⟩ : S34) [.int .i64 12, .bool (!e)] from (k34_mkM _ _ _ (⟨12, !e⟩ : S34))) (Reps.c2 (show Kd.M k34 _ _ _ (⟨13, true⟩ : S34) [.int .i64 13, .bool (true)] from (k34_mkM _ _ _ (⟨13, true⟩ : S34))) (Reps.c2 (show Kd.M k34 _ _ _ (⟨14, true⟩ : S34) [.int .i64 14, .bool (true)] from (k34_mkM _ _ _ (⟨14, true⟩ : S34))) (Reps.c2 (show Kd.M k34 _ _ _ (⟨15, decide (IntKind.u64.wrap a0 < IntKind.u64.wrap a1)⟩ : S34) [.int .i64 15, .bool (decide (IntKind.u64.wrap a0 < IntKind.u64.wrap a1))] from (k34_mkM _ _ _ (⟨15, decide (IntKind.u64.wrap a0 < IntKind.u64.wrap a1)⟩ : S34))) (Reps.none _ _))))))); intro v114 w7 ho8 hb hg_ hnew_; clear hg_ hnew_; rw [← Nx.out] at ho8; have n0_ := Aside0.mk (Kd.R_lower ho8 (below_size (by repeat (first | (with_reducible first | exact HB.out | apply below_alloc | apply pw_below_drewN | apply below_drew1) | exact HB.out)))); have n1_ := Aside0.mk (below_step (by repeat (first | (with_reducible first | exact HB.out | apply below_alloc | apply pw_below_drewN | apply below_drew1) | exact HB.out)) hb); clear HB; have HO := n0_; have HB := n1_; clear n0_ n1_; clear hb ho8; obtain ⟨Ao, co, eo⟩ := Kd.R_slice HO.out; subst eo))
    go_loopg [47] 10 (fun kq v47 w' => ∃ x : Int, v47 = .int .i64 x ∧ 0 ≤ x ∧ Aside0 (x + kq = 10) ∧ x ≤ 5 ∧ Aside0 (Kd.R k34 34 w' w.heap.size (fun _ => True) (.slice Ao xs.length co) xs) ∧ Aside0 (Below w.heap.size w w'))
    case atStart => exact ⟨0, rfl, by omega, ⟨by omega⟩, by omega, ⟨by (with_reducible repeat (first | apply Kd.R_alloc | apply Kd.R_drewN | apply Kd.R_drew)); exact HO.out⟩, ⟨by repeat (first | (with_reducible first | exact HB.out | apply below_alloc | apply pw_below_drewN | apply below_drew1) | exact HB.out)⟩⟩
    case round =>
      clear HO HB
      obtain ⟨x, rfl, hx0, hxk, hx5, HO, HB⟩ := hrel
      by_cases hlt : x < 5
      · obtain ⟨hd0, ht0⟩ := HF.out.2 x hx0 hlt
        have A2 := Aside0.mk hd0
        have A3 := Aside0.mk ht0
        have A4 := Aside0.mk (wbool (rd_T34 xs x).f1)
        have hlen := HF.out.1
        have c5 : decide (x < (xs.length : Int)) = true := by rw [hlen]; simp; omega
        clear hd0 ht0
        have p1 : 0 ≤ (x : Int) := hx0
        have q1 : x < (xs.length : Int) := by omega
        obtain ⟨ad, e1, hx_0, hx_1⟩ := at_T34 (Kd.R_reads' HO.out).2.2 x p1 q1
        cases e1
        have hw : wrap64 (x + 1) = x + 1 := by unfold wrap64; omega
        have HW := Aside0.mk hw
        clear hlen hw
        replace p1 := eq_true p1
        replace q1 := eq_true q1
        rcases Bool.eq_false_or_eq_true (rd_T34 xs x).f1 with hv | hv
        all_goals
          have c6 : (bz (rd_T34 xs x).f1 != bz (rd_T34 xs x).f1) = false := by simp
          rw [hv] at A2 A4 c6 hx_1
          simp only [bz, if_true, Bool.false_eq_true, if_false] at A2 A4 c6
          go_wp2_with (first
            | ((with_reducible refine gate_dst (N := 9) rfl ?_); refine box_event ?hg (N := 9) ?hd (cs := #[.int .i64 0, .bool false]) (t := 34) ?hr ?_; (case hd => rfl); (case hg => rfl); (case hr => first | (go_simp; done) | (go_simp; rfl)); intro gb hg w24 hbox hb; have n0_ := Aside0.mk (Kd.R_below (Kd.R_elderB (by (with_reducible repeat (first | apply Kd.R_alloc | apply Kd.R_drewN | apply Kd.R_drew)); exact HO.out) gb (Nat.le_of_eq hg.symm)) hb); have n1_ := Aside0.mk (below_step (by repeat (first | (with_reducible first | exact HB.out | apply below_alloc | apply pw_below_drewN | apply below_drew1) | exact HB.out)) hb); have n2_ := Aside0.mk (hbox); have n3_ := Aside0.mk ((by rw [hg]; exact (below_size (by repeat (first | (with_reducible first | exact HB.out | apply below_alloc | apply pw_below_drewN | apply below_drew1) | exact HB.out)))) : w.heap.size ≤ gb); clear HO HB; have HO := n0_; have HB := n1_; have BK := n2_; have GE := n3_; clear n0_ n1_ n2_ n3_; clear hb hbox hg; have hcz_0 : w24.cell? ⟨gb, 0, none⟩ = some (.int .i64 0) := (blk_cell BK.out 0).trans rfl; have hcz_1 : w24.cell? ⟨gb, 1, none⟩ = some (.bool false) := (blk_cell BK.out 1).trans rfl; have hfz_0 := blk_frozen BK.out 0; have hfz_1 := blk_frozen BK.out 1)
            | ((with_reducible refine gate_callee (f := 9) rfl ?_); refine goesL_ (some 56) rfl rfl Try.func9 (by kernel_rfl) rfl #[.int .i64 (rd_T34 xs x).f0, .int .i64 a0, .int .i64 a1] rfl (by (try simp only [List.map_toArray, List.map_cons, List.map_nil]); first | done | rfl | (simp only [List.length_drop, List.length_take]; rfl)) ?_; (with_reducible refine (word_Do.calls 20 (rd_T34 xs x).f0 a0 a1 _ true _ A2.out).mono ?_); rintro e w' ⟨rfl, ⟨nd, rfl⟩⟩; refine ⟨_, rfl, ?_⟩)
            | (go_at_call 13; (with_reducible refine (word_Bool.calls _ _ _ A4.out).mono ?_); rintro e w' ⟨rfl, ⟨nd, rfl⟩⟩)
            | (go_at_call 14; (with_reducible refine (word_Op_Truth.calls (rd_T34 xs x).f0 true _ A3.out).mono ?_); rintro e w' ⟨rfl, ⟨nd, rfl⟩⟩))
          go_roundg (gk - 1)
          case measure => have := hxk.out; omega
          case rel => exact ⟨x + 1, rfl, by omega, ⟨by have := hxk.out; omega⟩, by omega, ⟨by (with_reducible repeat (first | apply Kd.R_alloc | apply Kd.R_drewN | apply Kd.R_drew)); exact Kd.R_mono (Kd.R_far (p := ⟨gb, 1, none⟩) (Kd.R_far (p := ⟨gb, 0, none⟩) (Kd.R_mono HO.out (fun k_ hk => (⟨hk, hk.2⟩ : _ ∧ k_ ≠ gb))) (fun _ hk => hk.2) _) (fun _ hk => hk.2) _) (fun _ hk => trivial)⟩, ⟨by repeat (first | (with_reducible first | exact HB.out | apply below_alloc | apply pw_below_drewN | apply below_drew1 | refine below_set ?_ GE.out) | exact HB.out)⟩⟩
      · have hlen := HF.out.1
        have c5 : decide (x < (xs.length : Int)) = false := by rw [hlen]; simp; omega
        clear hlen
        go_wp2
        go_ret
        exact ⟨rfl, by repeat (first | (with_reducible first | exact HB.out | apply below_alloc | apply pw_below_drewN | apply below_drew1) | exact HB.out)⟩

theorem word_bounds {a : Int} (h : (Lit.int .i64 a).wf = true) : -9223372036854775808 ≤ a ∧ a ≤ 9223372036854775807 := by
  simp [Lit.wf, IntKind.min, IntKind.max, IntKind.signed, IntKind.bits] at h; omega
theorem walk (a b : Int) (w : World) (ha : (Lit.int .i64 a).wf = true) (hb : (Lit.int .i64 b).wf = true) :
    Calls Try.prog 7 #[.int .i64 a, .int .i64 b] w fun e w' => e = .returned (.bool true) ∧ Below w.heap.size w w' := by
  refine truths a b (decide (a < b)) (a == b) (decide (a < b) || a == b) w ?_ (xor_zero_iff a b (word_bounds ha) (word_bounds hb)) rfl (fine a b _ _ _ rfl rfl rfl)
  rw [flip_of a (word_bounds ha), flip_of b (word_bounds hb), Bool.eq_iff_iff]; simp

end Go.Proofs.Ytifonhhdfoefhaa.Truths
