/- The walk of image.Decode: out of the kit's print, changed by a program of mine. -/
import Derived.Test.YteabbcnoamhofaaNum
import Derived.Test.YteabbcnoamhofaaBx3
import Derived.Test.YteabbcnoamhofaaBx7
namespace Go.Proofs.Yteabbcnoamhofaa.B
open Go.RowKit Go.Proofs.YteabbcnoamhofaaW.PrintWords Go.Proofs.YteabbcnoamhofaaW.PrintLast Go.Proofs.YteabbcnoamhofaaW.PrintMore
attribute [local go_sem] max2_int min2_int max_two min_two max_three min_three max_four min_four   -- for this text's walks alone
set_option linter.unusedVariables false
set_option linter.unusedSimpArgs false


def image_num.f (xs : List Int) (xb : Bool) (M : Int) : Option (Int × List Int × Bool) := some (numOf xs xb M)
theorem num_f (w W : World) (g : Nat) (A : Option Addr) (c : Nat) (xs : List Int) (xb : Bool) (M t : Int) (xs' : List Int) (xb' : Bool) (hblk : W.heap[g]? = some (.cells #[.slice A xs.length c, .bool xb] 53 (0, 0))) (hC : Kd.C (Kd.int .u8) w A xs.length xs) (hc : xs.length ≤ c) (hB : Below w.heap.size w W) (hg : w.heap.size ≤ g) (h : image_num.f xs xb M = some (t, xs', xb')) :
    Calls Try.prog 19 #[.pointer (some ⟨g, 0, none⟩), .int .i64 M] W fun e W' => e = .returned (.int .i64 t) ∧ Sets g W W' ∧ ∃ A' c', W'.heap[g]? = some (.cells #[.slice A' xs'.length c', .bool xb'] 53 (0, 0)) ∧ Kd.C (Kd.int .u8) w A' xs'.length xs' ∧ xs'.length ≤ c' := by
  have h := Option.some.inj h
  refine (num_calls w W g A c xs xb M hblk hC hc hB hg).mono ?_
  rw [h]
  exact fun e W' h => h
mutual
def image_Decode.j0 : Nat → List Int → Bool → Option ((List (S26)) × (List (S33)) × Int × Int × Int)
  | 0, _, _ => none
  | k + 1, x0, x20 => if x20 = true then (some (([] : List (S26)), ([] : List (S33)), 0, 0, 2)) else (if 4 ≤ (x0.length : Int) then ((image_num.f (x0.drop 4) false 1048576).bind fun n1 => ((image_num.f n1.2.1 n1.2.2 1048576).bind fun n2 => ((image_num.f n2.2.1 n2.2.2 64).bind fun n3 => (image_Decode.l0 k 0 n3.1 0 n3.2.1 n3.2.2 ([] : List (S33)) n2.1 n1.1)))) else (none))
def image_Decode.l0 : Nat → Int → Int → Int → List Int → Bool → List (S33) → Int → Int → Option ((List (S26)) × (List (S33)) × Int × Int × Int)
  | 0, _, _, _, _, _, _, _, _ => none
  | k + 1, x6, x32, x33, xs, xb, x195001, x195002, x195003 => if x33 < x32 then ((image_num.f xs xb 4096).bind fun n1 => ((image_num.f n1.2.1 n1.2.2 2).bind fun n2 => (if x195001.length < 5864062014805 then (image_Decode.l0 k (wrap64 (x6 + n1.1)) x32 (wrap64 (x33 + 1)) n2.2.1 n2.2.2 (x195001 ++ [(⟨x6, n1.1, n2.1⟩ : S33)]) x195002 x195003) else (none)))) else ((image_num.f xs xb 32768).bind fun n3 => (if n3.2.2 = true then (image_Decode.j2 k n3.2.1 n3.1 true x195001 x195002 x195003) else (image_Decode.j2 k n3.2.1 n3.1 ((n3.2.1.length : Int) != (wrap64 (n3.1 * 13))) x195001 x195002 x195003)))
def image_Decode.j2 : Nat → List Int → Int → Bool → List (S33) → Int → Int → Option ((List (S26)) × (List (S33)) × Int × Int × Int)
  | 0, _, _, _, _, _, _ => none
  | k + 1, x0, x8, x67, x195001, x195002, x195003 => if x67 = true then (some (([] : List (S26)), ([] : List (S33)), 0, 0, 2)) else (image_Decode.l1 k x0 x8 0 ([] : List (S26)) x195001 x195002 x195003)
def image_Decode.l1 : Nat → List Int → Int → Int → List (S26) → List (S33) → Int → Int → Option ((List (S26)) × (List (S33)) × Int × Int × Int)
  | 0, _, _, _, _, _, _, _ => none
  | k + 1, x0, x69, x70, x195000, x195001, x195002, x195003 => if x70 < x69 then (if 0 ≤ (wrap64 (x70 * 13)) then (if (wrap64 (x70 * 13)) ≤ (wrap64 ((wrap64 (x70 + 1)) * 13)) then (if (wrap64 ((wrap64 (x70 + 1)) * 13)) ≤ (x0.length : Int) then ((code_Decode.f k ((x0.take ((wrap64 ((wrap64 (x70 + 1)) * 13)) : Int).toNat).drop ((wrap64 (x70 * 13)) : Int).toNat)).bind fun bt204 => (if bt204.2.2.2.2.2.2 = 0 then (if x195000.length < 2932031007402 then (image_Decode.l1 k x0 x69 (wrap64 (x70 + 1)) (x195000 ++ [(⟨bt204.1, bt204.2.1, bt204.2.2.1, bt204.2.2.2.1, bt204.2.2.2.2.1, bt204.2.2.2.2.2.1⟩ : S26)]) x195001 x195002 x195003) else (none)) else (some (([] : List (S26)), ([] : List (S33)), 0, 0, bt204.2.2.2.2.2.2)))) else (none)) else (none)) else (none)) else ((image_Image_Right.f k x195000 x195001 x195002 x195003).bind fun t215 => (if t215 = true then (some (x195000, x195001, x195002, x195003, 0)) else (some (([] : List (S26)), ([] : List (S33)), 0, 0, 2))))
end
def image_Decode.f (k : Nat) (l0 : List Int) : Option ((List (S26)) × (List (S33)) × Int × Int × Int) := if (l0.length : Int) < 4 then (image_Decode.j0 k l0 true) else (if 4 ≤ (l0.length : Int) then (image_Decode.j0 k l0 ((strOfNums (l0.take 4)).toList != ([112, 97, 108, 49] : List UInt8))) else (none))
set_option maxRecDepth 100000 in
set_option maxHeartbeats 16000000 in
theorem image_Decode.calls (k : Nat) (A0 : Option Addr) (c0 : Nat) (l0 : List Int) (r1 : List (S26)) (r2 : List (S33)) (r3 : Int) (r4 : Int) (r5 : Int) (w : World) (hr0 : Kd.C (Kd.int .u8) w A0 l0.length l0) (hc0 : l0.length ≤ c0) (h : image_Decode.f k l0 = some (r1, r2, r3, r4, r5)) :
    Calls Try.prog 13 #[.slice A0 l0.length c0] w fun e w' => ∃ v0_ v1_ : Value, e = .returned (.tuple #[.agg #[v0_, v1_, .int .i64 r3, .int .i64 r4], .int .i64 r5]) ∧ Kd.R k26 26 w' w.heap.size (fun _ => True) v0_ r1 ∧ Kd.R k33 33 w' w.heap.size (fun _ => True) v1_ r2 ∧ Below w.heap.size w w' := by
  have hu30 := Try.underlying30
  have hu53 := Try.underlying53
  have hu33 := Try.underlying33
  have hu26 := Try.underlying26
  have HR0 := Aside0.mk hr0
  have HC0 := Aside0.mk hc0
  clear hr0 hc0
  have HB := Aside0.mk (Below.refl w.heap.size w)
  have H : (if (l0.length : Int) < 4 then (image_Decode.j0 k l0 true) else (if 4 ≤ (l0.length : Int) then (image_Decode.j0 k l0 ((strOfNums (l0.take 4)).toList != ([112, 97, 108, 49] : List UInt8))) else (none))) = some (r1, r2, r3, r4, r5) := h
  clear h
  have HC2 := Aside0.mk H
  clear H
  go_enter Try.func13, Try.ntmps13
  go_upto_region 1 with (first | ((with_reducible refine gate_dst (N := 2) rfl ?_); refine box_event ?hg (N := 2) ?hd (cs := #[.slice none 0 0, .slice none 0 0, .int .i64 0, .int .i64 0]) (t := 30) ?hr ?_; (case hd => rfl); (case hg => rfl); (case hr => first | (go_simp; done) | (go_simp; rfl)); intro gb189 hg w3 hbox hb; have n0_ := Aside0.mk (below_step (by repeat (first | (with_reducible first | exact HB.out | apply below_alloc | apply pw_below_drewN | apply below_drew1) | exact HB.out)) hb); have n1_ := Aside0.mk (hbox); have n2_ := Aside0.mk ((by rw [hg]; exact (below_size (by repeat (first | (with_reducible first | exact HB.out | apply below_alloc | apply pw_below_drewN | apply below_drew1) | exact HB.out))) : w.heap.size ≤ gb189)); have n3_ := Aside0.mk ((by rw [hg]; exact (below_size (by repeat (first | (with_reducible first | exact HB.out | apply below_alloc | apply pw_below_drewN | apply below_drew1) | exact HB.out))) : w.heap.size ≤ gb189)); clear HB; have HB := n0_; have BK189 := n1_; have GW189 := n2_; have GE189 := n3_; clear n0_ n1_ n2_ n3_; clear hb hbox hg))
  (try simp only [Act.put, List.setIfInBounds_toArray, List.set_cons_zero, List.set_cons_succ])
  go_cut [20] (fun v20 wc => ∃ (kq : Nat) (x20_1 : Bool), v20 = .bool x20_1 ∧ Aside0 (image_Decode.j0 kq l0 x20_1 = some (r1, r2, r3, r4, r5)) ∧ Aside0 (kq ≤ k) ∧ Aside0 (wc.heap[gb189]? = some (.cells #[(.slice none 0 0), (.slice none 0 0), .int .i64 0, .int .i64 0] 30 (0, 0))) ∧ Aside0 (Below w.heap.size w wc))
  case first =>
    have H := HC2.out
    clear HC2
    by_cases c4 : (l0.length : Int) < 4
    · rw [if_pos c4] at H
      have c4b0 : decide ((l0.length : Int) < 4) = true := decide_eq_true c4
      have c4b1 : decide (l0.length < 4) = true := decide_eq_true (by omega)
      clear c4
      (first | rw [c4b0] | (simp only [i64_w, i32_w]; rw [c4b0]) | skip)
      have H' := Aside0.mk H
      clear H
      go_wp2
      go_meet
      case rel => exact ⟨_, (true), (by first | rfl | (simp; done) | (simp [*]; done)), H', ⟨by first | omega | exact Nat.le_refl _⟩, ⟨by (with_reducible repeat (first | refine blk_drewN ?_ _ | refine blk_drew ?_ | refine blk_alloc ?_ _)); exact BK189.out⟩, ⟨by repeat (first | (with_reducible first | exact HB.out | apply below_alloc | apply pw_below_drewN | apply below_drew1 | refine below_set ?_ GE189.out) | exact HB.out)⟩⟩
    · rw [if_neg c4] at H
      have c4b0 : decide ((l0.length : Int) < 4) = false := decide_eq_false c4
      have c4b1 : decide (l0.length < 4) = false := decide_eq_false (by omega)
      clear c4
      (first | rw [c4b0] | (simp only [i64_w, i32_w]; rw [c4b0]) | skip)
      by_cases c5 : 4 ≤ (l0.length : Int)
      · rw [if_pos c5] at H
        have c5b0 := eq_true c5
        have c5b1 : decide (4 ≤ (l0.length : Int)) = true := decide_eq_true c5
        clear c5
        have H' := Aside0.mk H
        clear H
        obtain ⟨i06, hi06, _, hsz6, _⟩ := info_parts info5
        obtain ⟨hcut6, hA6, hC6⟩ := print_take_of (P := Try.prog) (Value.int .u8) 0 41 5 .i64 Try.underlying41 hi06 hsz6 A0 c0 l0 4 (by omega) (of_decide_eq_true (by first | (with_reducible assumption) | assumption)) HC0.out
        have HR190 := Aside0.mk (Kd.C_of_reads (h1 := fun _ => rfl) (hA6 _ (Kd.reads_of_C HR0.out)))
        have HC190 := Aside0.mk hC6
        clear hA6 hC6 hi06 hsz6
        have hcv7 := Kd.C_string (P := Try.prog) (A := A0) (c := c0) Try.underlying41 Try.underlying5 Try.underlying9 (Kd.C_below HR190.out HB.out)
        have hcv7b : (convert 41 9 (.slice A0 (min 4 l0.length) c0)).run Try.prog w3 = .ok (.string (strOfNums (l0.take 4))) w3 := by rw [← List.length_take]; exact hcv7
        go_wp2
        go_meet
        case rel => exact ⟨_, (((strOfNums (l0.take 4)).toList != ([112, 97, 108, 49] : List UInt8))), (by first | rfl | (simp; done) | (simp [*]; done)), H', ⟨by first | omega | exact Nat.le_refl _⟩, ⟨by (with_reducible repeat (first | refine blk_drewN ?_ _ | refine blk_drew ?_ | refine blk_alloc ?_ _)); exact BK189.out⟩, ⟨by repeat (first | (with_reducible first | exact HB.out | apply below_alloc | apply pw_below_drewN | apply below_drew1 | refine below_set ?_ GE189.out) | exact HB.out)⟩⟩
      · rw [if_neg c5] at H
        exact absurd H (by simp)
  case rest =>
    clear HC2
    try clear c1
    try clear p2
    try clear c4
    try clear c4b0
    try clear c4b1
    try clear c5
    try clear c5b0
    try clear c5b1
    try clear hcv7
    obtain ⟨kq, x20_1, rfl, HA, HJ1, BK189, HB⟩ := hcut
    cases kq with
    | zero => exact absurd HA.out (by simp [image_Decode.j0])
    | succ kj1 =>
      have H := HA.out
      clear HA
      simp only [image_Decode.j0] at H
      by_cases c8 : x20_1 = true
      · subst c8
        have H1 : (some (([] : List (S26)), ([] : List (S33)), 0, 0, 2)) = some (r1, r2, r3, r4, r5) := by rw [if_pos rfl] at H; exact H
        clear H
        have H := H1
        clear H1
        simp only [Option.some.injEq, Prod.mk.injEq] at H
        obtain ⟨rfl, rfl, rfl, rfl, rfl⟩ := H
        have hcz9_0 : wc.cell? ⟨gb189, 0, none⟩ = some (.slice none 0 0) := (blk_cell BK189.out 0).trans rfl
        have hcz9_1 : wc.cell? ⟨gb189, 1, none⟩ = some (.slice none 0 0) := (blk_cell BK189.out 1).trans rfl
        have hcz9_2 : wc.cell? ⟨gb189, 2, none⟩ = some (.int .i64 0) := (blk_cell BK189.out 2).trans rfl
        have hcz9_3 : wc.cell? ⟨gb189, 3, none⟩ = some (.int .i64 0) := (blk_cell BK189.out 3).trans rfl
        have hfz9_0 := blk_frozen BK189.out 0
        have hfz9_1 := blk_frozen BK189.out 1
        have hfz9_2 := blk_frozen BK189.out 2
        have hfz9_3 := blk_frozen BK189.out 3
        go_wp2
        refine bodyPost_ret (results_ct rfl _ _ gb189 30 #[.slice none 0 0, .slice none 0 0, .int .i64 0, .int .i64 0] (0, 0) _ rfl (by (with_reducible repeat (first | refine blk_drewN ?_ _ | refine blk_drew ?_ | refine blk_alloc ?_ _)); refine blk_put (cs := #[.slice none 0 0, .slice none 0 0, .int .i64 0, .int .i64 0]) ?_ 3 _ rfl; (with_reducible repeat (first | refine blk_drewN ?_ _ | refine blk_drew ?_ | refine blk_alloc ?_ _)); refine blk_put (cs := #[.slice none 0 0, .slice none 0 0, .int .i64 0, .int .i64 0]) ?_ 2 _ rfl; (with_reducible repeat (first | refine blk_drewN ?_ _ | refine blk_drew ?_ | refine blk_alloc ?_ _)); refine blk_put (cs := #[.slice none 0 0, .slice none 0 0, .int .i64 0, .int .i64 0]) ?_ 1 _ rfl; (with_reducible repeat (first | refine blk_drewN ?_ _ | refine blk_drew ?_ | refine blk_alloc ?_ _)); refine blk_put (cs := #[.slice none 0 0, .slice none 0 0, .int .i64 0, .int .i64 0]) ?_ 0 _ rfl; (with_reducible repeat (first | refine blk_drewN ?_ _ | refine blk_drew ?_ | refine blk_alloc ?_ _)); exact BK189.out) Try.underlying30 rfl (by kernel_rfl)) rfl ?_
        exact ⟨_, _, by first | rfl | (simp [errW_none, errW_some] <;> rfl) | (simp [*, errW_none, errW_some] <;> rfl), by first | exact Kd.R_nil _ _ _ _ _ | exact Kd.N_nil _ _ _ _ _ | exact Kd.V_nil _ _ _ _ _ | exact Kd.Q_nil _ _ _ _ _ | exact Kd.S_nil _ _ _ _ _, by first | exact Kd.R_nil _ _ _ _ _ | exact Kd.N_nil _ _ _ _ _ | exact Kd.V_nil _ _ _ _ _ | exact Kd.Q_nil _ _ _ _ _ | exact Kd.S_nil _ _ _ _ _, by repeat (first | (with_reducible first | exact HB.out | apply below_alloc | apply pw_below_drewN | apply below_drew1 | refine below_set ?_ GE189.out) | exact HB.out)⟩
      · replace c8 := Bool.eq_false_iff.mpr c8
        subst c8
        have H1 : (if 4 ≤ (l0.length : Int) then ((image_num.f (l0.drop 4) false 1048576).bind fun n1 => ((image_num.f n1.2.1 n1.2.2 1048576).bind fun n2 => ((image_num.f n2.2.1 n2.2.2 64).bind fun n3 => (image_Decode.l0 kj1 0 n3.1 0 n3.2.1 n3.2.2 ([] : List (S33)) n2.1 n1.1)))) else (none)) = some (r1, r2, r3, r4, r5) := by rw [if_neg (show ¬ (false = true) by decide)] at H; exact H
        clear H
        have H := H1
        clear H1
        have c10 : 4 ≤ (l0.length : Int) := by
          rcases (show (l0.length : Int) < 4 ∨ 4 ≤ (l0.length : Int) by omega) with h_ | h_
          · rw [if_neg (by omega)] at H; exact absurd H (by simp)
          · exact h_
        rw [if_pos c10] at H
        replace H := Option.bind_eq_some_iff.mp H
        obtain ⟨⟨t192, xr1, xq1⟩, A100, H⟩ := H
        have A10 := Aside0.mk A100
        clear A100
        replace H := Option.bind_eq_some_iff.mp H
        obtain ⟨⟨t193, xr2, xq2⟩, A110, H⟩ := H
        have A11 := Aside0.mk A110
        clear A110
        replace H := Option.bind_eq_some_iff.mp H
        obtain ⟨⟨t195, xr3, xq3⟩, A120, H⟩ := H
        replace H : (image_Decode.l0 kj1 0 t195 0 xr3 xq3 ([] : List (S33)) t193 t192) = some (r1, r2, r3, r4, r5) := H
        have A12 := Aside0.mk A120
        clear A120
        have H' := Aside0.mk H
        clear H
        obtain ⟨i014, hi014, _, hsz14, _⟩ := info_parts info5
        obtain ⟨AR, hcut14, hA14, hC14⟩ := print_drop_of (P := Try.prog) (Value.int .u8) 0 41 5 .i64 Try.underlying41 hi014 hsz14 A0 c0 l0 4 (by omega) c10 HC0.out
        have HRR : Aside0 (Kd.C (Kd.int .u8) w AR (l0.drop 4).length (l0.drop 4)) := ⟨Kd.C_of_reads (h1 := fun _ => rfl) (hA14 _ (Kd.reads_of_C HR0.out))⟩
        have HCR : Aside0 ((l0.drop 4).length ≤ (c0 - 4)) := ⟨hC14⟩
        clear hA14 hC14 hi014 hsz14
        replace c10 := eq_true c10
        go_wp2_with (first | ((with_reducible refine gate_dst (N := 25) rfl ?_); refine box_event ?hg (N := 25) ?hd (cs := #[.slice AR (l0.length - 4) (c0 - 4), .bool false]) (t := 53) ?hr ?_; (case hd => rfl); (case hg => rfl); (case hr => first | (go_simp; done) | (go_simp; rfl)); intro gb191 hg w13 hbox hb; have n0_ := Aside0.mk (blk_below (g := gb189) (o := .cells #[.slice none 0 0, .slice none 0 0, .int .i64 0, .int .i64 0] 30 (0, 0)) (by (with_reducible repeat (first | refine blk_drewN ?_ _ | refine blk_drew ?_ | refine blk_alloc ?_ _)); exact BK189.out) hb); have n1_ := Aside0.mk (below_step (by repeat (first | (with_reducible first | exact HB.out | apply below_alloc | apply pw_below_drewN | apply below_drew1 | refine below_set ?_ GE189.out) | exact HB.out)) hb); have n2_ := Aside0.mk (hbox); have n3_ := Aside0.mk ((by rw [hg]; exact (below_size (by repeat (first | (with_reducible first | exact HB.out | apply below_alloc | apply pw_below_drewN | apply below_drew1 | refine below_set ?_ GE189.out) | exact HB.out))) : w.heap.size ≤ gb191)); have n4_ := Aside0.mk ((by rw [hg]; exact (below_size (by repeat (first | (with_reducible first | exact HB.out | apply below_alloc | apply pw_below_drewN | apply below_drew1 | refine below_set ?_ GE189.out) | exact HB.out))) : w.heap.size ≤ gb191)); have n5_ := Aside0.mk ((by rw [hg]; exact Nat.ne_of_lt (blk_lt (g := gb189) (o := .cells #[.slice none 0 0, .slice none 0 0, .int .i64 0, .int .i64 0] 30 (0, 0)) (by (with_reducible repeat (first | refine blk_drewN ?_ _ | refine blk_drew ?_ | refine blk_alloc ?_ _)); exact BK189.out)) : gb189 ≠ gb191)); have n6_ := Aside0.mk ((by rw [hg]; exact Nat.ne_of_gt (blk_lt (g := gb189) (o := .cells #[.slice none 0 0, .slice none 0 0, .int .i64 0, .int .i64 0] 30 (0, 0)) (by (with_reducible repeat (first | refine blk_drewN ?_ _ | refine blk_drew ?_ | refine blk_alloc ?_ _)); exact BK189.out)) : gb191 ≠ gb189)); clear BK189; clear HB; have BK189 := n0_; have HB := n1_; have BK191 := n2_; have GW191 := n3_; have GE191 := n4_; have NB189_191 := n5_; have NB191_189 := n6_; clear n0_ n1_ n2_ n3_ n4_ n5_ n6_; clear hb hbox hg) | ((with_reducible refine gate_callee (f := 19) rfl ?_); refine goesL_ (some 27) rfl rfl Try.func19 (by kernel_rfl) rfl #[.pointer (some ⟨gb191, 0, none⟩), .int .i64 1048576] rfl (by (try simp only [List.map_toArray, List.map_cons, List.map_nil]); first | done | rfl | (simp only [List.length_drop, List.length_take]; rfl)) ?_; refine (num_f w _ gb191 AR (c0 - 4) (l0.drop 4) false 1048576 t192 xr1 xq1 (by rw [List.length_drop]; (with_reducible repeat (first | refine blk_drewN ?_ _ | refine blk_drew ?_ | refine blk_alloc ?_ _)); exact BK191.out) HRR.out HCR.out (by repeat (first | (with_reducible first | exact HB.out | apply below_alloc | apply pw_below_drewN | apply below_drew1 | refine below_set ?_ GE189.out | refine below_set ?_ GE191.out) | exact HB.out)) GE191.out A10.out).mono ?_; rintro e wc ⟨rfl, hset, AR, CR, hbk, hrr, hcr⟩; refine ⟨_, rfl, ?_⟩; have n0_ := Aside0.mk (hset.blk NB189_191.out (by (with_reducible repeat (first | refine blk_drewN ?_ _ | refine blk_drew ?_ | refine blk_alloc ?_ _)); exact BK189.out)); have n1_ := Aside0.mk (hset.bel (by repeat (first | (with_reducible first | exact HB.out | apply below_alloc | apply pw_below_drewN | apply below_drew1 | refine below_set ?_ GE189.out | refine below_set ?_ GE191.out) | exact HB.out)) GE191.out); clear BK189 HB BK191 HRR HCR; have BK189 := n0_; have HB := n1_; have BK191 := Aside0.mk hbk; have HRR := Aside0.mk hrr; have HCR := Aside0.mk hcr; clear n0_ n1_ hset hbk hrr hcr) | ((with_reducible refine gate_callee (f := 19) rfl ?_); refine goesL_ (some 29) rfl rfl Try.func19 (by kernel_rfl) rfl #[.pointer (some ⟨gb191, 0, none⟩), .int .i64 1048576] rfl (by (try simp only [List.map_toArray, List.map_cons, List.map_nil]); first | done | rfl | (simp only [List.length_drop, List.length_take]; rfl)) ?_; refine (num_f w _ gb191 AR CR xr1 xq1 1048576 t193 xr2 xq2 (by (with_reducible repeat (first | refine blk_drewN ?_ _ | refine blk_drew ?_ | refine blk_alloc ?_ _)); exact BK191.out) HRR.out HCR.out (by repeat (first | (with_reducible first | exact HB.out | apply below_alloc | apply pw_below_drewN | apply below_drew1 | refine below_set ?_ GE189.out | refine below_set ?_ GE191.out) | exact HB.out)) GE191.out A11.out).mono ?_; rintro e wc ⟨rfl, hset, AR, CR, hbk, hrr, hcr⟩; refine ⟨_, rfl, ?_⟩; have n0_ := Aside0.mk (hset.blk NB189_191.out (by (with_reducible repeat (first | refine blk_drewN ?_ _ | refine blk_drew ?_ | refine blk_alloc ?_ _)); exact BK189.out)); have n1_ := Aside0.mk (hset.bel (by repeat (first | (with_reducible first | exact HB.out | apply below_alloc | apply pw_below_drewN | apply below_drew1 | refine below_set ?_ GE189.out | refine below_set ?_ GE191.out) | exact HB.out)) GE191.out); clear BK189 HB BK191 HRR HCR; have BK189 := n0_; have HB := n1_; have BK191 := Aside0.mk hbk; have HRR := Aside0.mk hrr; have HCR := Aside0.mk hcr; clear n0_ n1_ hset hbk hrr hcr) | ((with_reducible refine gate_dst (N := 5) rfl ?_); refine box_event ?hg (N := 5) ?hd (cs := #[.slice none 0 0, .slice none 0 0, .int .i64 0, .int .i64 0]) (t := 30) ?hr ?_; (case hd => rfl); (case hg => rfl); (case hr => first | (go_simp; done) | (go_simp; rfl)); intro gb194 hg w16 hbox hb; have n0_ := Aside0.mk (blk_below (g := gb189) (o := .cells #[.slice none 0 0, .slice none 0 0, .int .i64 0, .int .i64 0] 30 (0, 0)) (by (with_reducible repeat (first | refine blk_drewN ?_ _ | refine blk_drew ?_ | refine blk_alloc ?_ _)); exact BK189.out) hb); have n1_ := Aside0.mk (blk_below (g := gb191) (o := .cells #[.slice AR xr2.length CR, .bool xq2] 53 (0, 0)) (by (with_reducible repeat (first | refine blk_drewN ?_ _ | refine blk_drew ?_ | refine blk_alloc ?_ _)); exact BK191.out) hb); have n2_ := Aside0.mk (below_step (by repeat (first | (with_reducible first | exact HB.out | apply below_alloc | apply pw_below_drewN | apply below_drew1 | refine below_set ?_ GE189.out | refine below_set ?_ GE191.out) | exact HB.out)) hb); have n3_ := Aside0.mk (hbox); have n4_ := Aside0.mk ((by rw [hg]; exact (below_size (by repeat (first | (with_reducible first | exact HB.out | apply below_alloc | apply pw_below_drewN | apply below_drew1 | refine below_set ?_ GE189.out | refine below_set ?_ GE191.out) | exact HB.out))) : w.heap.size ≤ gb194)); have n5_ := Aside0.mk ((by rw [hg]; exact (below_size (by repeat (first | (with_reducible first | exact HB.out | apply below_alloc | apply pw_below_drewN | apply below_drew1 | refine below_set ?_ GE189.out | refine below_set ?_ GE191.out) | exact HB.out))) : w.heap.size ≤ gb194)); have n6_ := Aside0.mk ((by rw [hg]; exact Nat.ne_of_lt (blk_lt (g := gb189) (o := .cells #[.slice none 0 0, .slice none 0 0, .int .i64 0, .int .i64 0] 30 (0, 0)) (by (with_reducible repeat (first | refine blk_drewN ?_ _ | refine blk_drew ?_ | refine blk_alloc ?_ _)); exact BK189.out)) : gb189 ≠ gb194)); have n7_ := Aside0.mk ((by rw [hg]; exact Nat.ne_of_gt (blk_lt (g := gb189) (o := .cells #[.slice none 0 0, .slice none 0 0, .int .i64 0, .int .i64 0] 30 (0, 0)) (by (with_reducible repeat (first | refine blk_drewN ?_ _ | refine blk_drew ?_ | refine blk_alloc ?_ _)); exact BK189.out)) : gb194 ≠ gb189)); have n8_ := Aside0.mk ((by rw [hg]; exact Nat.ne_of_lt (blk_lt (g := gb191) (o := .cells #[.slice AR xr2.length CR, .bool xq2] 53 (0, 0)) (by (with_reducible repeat (first | refine blk_drewN ?_ _ | refine blk_drew ?_ | refine blk_alloc ?_ _)); exact BK191.out)) : gb191 ≠ gb194)); have n9_ := Aside0.mk ((by rw [hg]; exact Nat.ne_of_gt (blk_lt (g := gb191) (o := .cells #[.slice AR xr2.length CR, .bool xq2] 53 (0, 0)) (by (with_reducible repeat (first | refine blk_drewN ?_ _ | refine blk_drew ?_ | refine blk_alloc ?_ _)); exact BK191.out)) : gb194 ≠ gb191)); clear BK189; clear BK191; clear HB; have BK189 := n0_; have BK191 := n1_; have HB := n2_; have BK194 := n3_; have GW194 := n4_; have GE194 := n5_; have NB189_194 := n6_; have NB194_189 := n7_; have NB191_194 := n8_; have NB194_191 := n9_; clear n0_ n1_ n2_ n3_ n4_ n5_ n6_ n7_ n8_ n9_; clear hb hbox hg; have hnb17 := NB194_189.out; have hnc17 := NB189_194.out; have hnb18 := NB194_191.out; have hnc18 := NB191_194.out; have hcz19_0 : w16.cell? ⟨gb194, 0, none⟩ = some (.slice none 0 0) := (blk_cell BK194.out 0).trans rfl; have hcz19_1 : w16.cell? ⟨gb194, 1, none⟩ = some (.slice none 0 0) := (blk_cell BK194.out 1).trans rfl; have hcz19_2 : w16.cell? ⟨gb194, 2, none⟩ = some (.int .i64 0) := (blk_cell BK194.out 2).trans rfl; have hcz19_3 : w16.cell? ⟨gb194, 3, none⟩ = some (.int .i64 0) := (blk_cell BK194.out 3).trans rfl; have hfz19_0 := blk_frozen BK194.out 0; have hfz19_1 := blk_frozen BK194.out 1; have hfz19_2 := blk_frozen BK194.out 2; have hfz19_3 := blk_frozen BK194.out 3) | ((with_reducible refine gate_callee (f := 19) rfl ?_); refine goesL_ (some 32) rfl rfl Try.func19 (by kernel_rfl) rfl #[.pointer (some ⟨gb191, 0, none⟩), .int .i64 64] rfl (by (try simp only [List.map_toArray, List.map_cons, List.map_nil]); first | done | rfl | (simp only [List.length_drop, List.length_take]; rfl)) ?_; refine (num_f w _ gb191 AR CR xr2 xq2 64 t195 xr3 xq3 (by (with_reducible repeat (first | refine blk_drewN ?_ _ | refine blk_drew ?_ | refine blk_alloc ?_ _)); refine blk_far ?_ NB191_194.out _; refine blk_far ?_ NB191_194.out _; refine blk_far ?_ NB191_194.out _; refine blk_far ?_ NB191_194.out _; exact BK191.out) HRR.out HCR.out (by repeat (first | (with_reducible first | exact HB.out | apply below_alloc | apply pw_below_drewN | apply below_drew1 | refine below_set ?_ GE189.out | refine below_set ?_ GE191.out | refine below_set ?_ GE194.out) | exact HB.out)) GE191.out A12.out).mono ?_; rintro e wc ⟨rfl, hset, AR, CR, hbk, hrr, hcr⟩; refine ⟨_, rfl, ?_⟩; have n0_ := Aside0.mk (hset.blk (cs := #[.slice none 0 0, .slice none 0 0, .int .i64 0, .int .i64 0]) (t := 30) NB189_191.out (by (with_reducible repeat (first | refine blk_drewN ?_ _ | refine blk_drew ?_ | refine blk_alloc ?_ _)); refine blk_far ?_ NB189_194.out _; refine blk_far ?_ NB189_194.out _; refine blk_far ?_ NB189_194.out _; refine blk_far ?_ NB189_194.out _; exact BK189.out)); have n1_ := Aside0.mk (hset.blk (cs := #[.slice none 0 0, .slice none 0 0, .int .i64 t193, .int .i64 t192]) (t := 30) NB194_191.out (by (with_reducible repeat (first | refine blk_drewN ?_ _ | refine blk_drew ?_ | refine blk_alloc ?_ _)); refine blk_put (cs := #[.slice none 0 0, .slice none 0 0, .int .i64 t193, .int .i64 0]) ?_ 3 _ rfl; (with_reducible repeat (first | refine blk_drewN ?_ _ | refine blk_drew ?_ | refine blk_alloc ?_ _)); refine blk_put (cs := #[.slice none 0 0, .slice none 0 0, .int .i64 0, .int .i64 0]) ?_ 2 _ rfl; (with_reducible repeat (first | refine blk_drewN ?_ _ | refine blk_drew ?_ | refine blk_alloc ?_ _)); refine blk_put (cs := #[.slice none 0 0, .slice none 0 0, .int .i64 0, .int .i64 0]) ?_ 1 _ rfl; (with_reducible repeat (first | refine blk_drewN ?_ _ | refine blk_drew ?_ | refine blk_alloc ?_ _)); refine blk_put (cs := #[.slice none 0 0, .slice none 0 0, .int .i64 0, .int .i64 0]) ?_ 0 _ rfl; (with_reducible repeat (first | refine blk_drewN ?_ _ | refine blk_drew ?_ | refine blk_alloc ?_ _)); exact BK194.out)); have n2_ := Aside0.mk (hset.bel (by repeat (first | (with_reducible first | exact HB.out | apply below_alloc | apply pw_below_drewN | apply below_drew1 | refine below_set ?_ GE189.out | refine below_set ?_ GE191.out | refine below_set ?_ GE194.out) | exact HB.out)) GE191.out); clear BK189 BK194 HB BK191 HRR HCR; have BK189 := n0_; have BK194 := n1_; have HB := n2_; have BK191 := Aside0.mk hbk; have HRR := Aside0.mk hrr; have HCR := Aside0.mk hcr; clear n0_ n1_ n2_ hset hbk hrr hcr))
        go_loopg [6, 33] kj1 (fun kq v6 v33 w' => ∃ (x6_2 : Int) (x33_2 : Int) (x195001_2 : List (S33)) (u195001 : Value) (AR : Option Addr) (CR : Nat) (xr : List Int) (xq : Bool), v6 = .int .i64 x6_2 ∧ v33 = .int .i64 x33_2 ∧ Aside0 (image_Decode.l0 kq x6_2 t195 x33_2 xr xq x195001_2 t193 t192 = some (r1, r2, r3, r4, r5)) ∧ Aside0 (kq ≤ kj1) ∧ Aside0 (Kd.R k33 33 w' w.heap.size (fun _ => True) u195001 x195001_2) ∧ Aside0 (w'.heap[gb189]? = some (.cells #[(.slice none 0 0), (.slice none 0 0), .int .i64 0, .int .i64 0] 30 (0, 0))) ∧ Aside0 (w'.heap[gb191]? = some (.cells #[.slice AR xr.length CR, .bool xq] 53 (0, 0))) ∧ Aside0 (w'.heap[gb194]? = some (.cells #[(.slice none 0 0), u195001, .int .i64 t193, .int .i64 t192] 30 (0, 0))) ∧ Aside0 (Below w.heap.size w w') ∧ Aside0 (Kd.C (Kd.int .u8) w AR xr.length xr) ∧ Aside0 (xr.length ≤ CR))
        case atStart => exact ⟨(0), (0), (([] : List (S33))), (.slice none 0 0), AR, CR, xr3, xq3, (by first | rfl | (simp; done) | (simp [*]; done)), (by first | rfl | (simp; done) | (simp [*]; done)), H', ⟨Nat.le_refl _⟩, ⟨by first | exact Kd.R_nil _ _ _ _ _ | exact Kd.N_nil _ _ _ _ _ | exact Kd.V_nil _ _ _ _ _ | exact Kd.Q_nil _ _ _ _ _ | exact Kd.S_nil _ _ _ _ _⟩, ⟨BK189.out⟩, ⟨BK191.out⟩, ⟨BK194.out⟩, ⟨by repeat (first | (with_reducible first | exact HB.out | apply below_alloc | apply pw_below_drewN | apply below_drew1 | refine below_set ?_ GE189.out | refine below_set ?_ GE191.out | refine below_set ?_ GE194.out) | exact HB.out)⟩, HRR, HCR⟩
        case round =>
          clear H'
          try clear c1
          try clear p2
          try clear c4
          try clear c4b0
          try clear c4b1
          try clear c5
          try clear c5b0
          try clear c5b1
          try clear hcv7
          try clear c8
          try clear c13
          try clear c14
          try clear c17
          try clear c18
          try clear hcz15_0
          try clear hcz15_1
          try clear hcz19_0
          try clear hcz19_1
          try clear hcz19_2
          try clear hcz19_3
          try clear hcz9_0
          try clear hcz9_1
          try clear hcz9_2
          try clear hcz9_3
          try clear hfz15_0
          try clear hfz15_1
          try clear hfz19_0
          try clear hfz19_1
          try clear hfz19_2
          try clear hfz19_3
          try clear hfz9_0
          try clear hfz9_1
          try clear hfz9_2
          try clear hfz9_3
          try clear p2
          obtain ⟨x6_2, x33_2, x195001_2, u195001, AR, CR, xr, xq, rfl, rfl, HA, HK2, HO_195001, BK189, BK191, BK194, HB, HRR, HCR⟩ := hrel
          cases gk with
          | zero => exact absurd HA.out (by simp [image_Decode.l0])
          | succ k2 =>
            have H := HA.out
            clear HA
            simp only [image_Decode.l0] at H
            by_cases c20 : x33_2 < t195
            · rw [if_pos c20] at H
              have c20b0 : decide (x33_2 < t195) = true := decide_eq_true c20
              clear c20
              replace H := Option.bind_eq_some_iff.mp H
              obtain ⟨⟨t196, xr1, xq1⟩, A210, H⟩ := H
              have A21 := Aside0.mk A210
              clear A210
              replace H := Option.bind_eq_some_iff.mp H
              obtain ⟨⟨t197, xr2, xq2⟩, A220, H⟩ := H
              replace H : (if x195001_2.length < 5864062014805 then (image_Decode.l0 k2 (wrap64 (x6_2 + t196)) t195 (wrap64 (x33_2 + 1)) xr2 xq2 (x195001_2 ++ [(⟨x6_2, t196, t197⟩ : S33)]) t193 t192) else (none)) = some (r1, r2, r3, r4, r5) := H
              have A22 := Aside0.mk A220
              clear A220
              by_cases c23 : x195001_2.length < 5864062014805
              · rw [if_pos c23] at H
                have LMc23 := Aside0.mk c23
                clear c23
                obtain ⟨y199, hy199⟩ : ∃ y_ : List (S33), y_ = (x195001_2 ++ [(⟨x6_2, t196, t197⟩ : S33)]) := ⟨_, rfl⟩
                replace H : (image_Decode.l0 k2 (wrap64 (x6_2 + t196)) t195 (wrap64 (x33_2 + 1)) xr2 xq2 y199 t193 t192) = some (r1, r2, r3, r4, r5) := by first | (rw [hy199]; with_reducible exact H) | (have H2_ := (Option.bind_some _ _).symm.trans H; rw [hy199]; with_reducible exact H2_) | (have H2_ := (Option.bind_some _ _).symm.trans H; with_reducible exact H2_) | with_reducible exact H | (rw [hy199]; exact H) | exact H
                have Ny199 := Aside0.mk hy199
                clear hy199
                have H' := Aside0.mk H
                clear H
                go_wp2_with (first | ((with_reducible refine gate_callee (f := 19) rfl ?_); refine goesL_ (some 37) rfl rfl Try.func19 (by kernel_rfl) rfl #[.pointer (some ⟨gb191, 0, none⟩), .int .i64 4096] rfl (by (try simp only [List.map_toArray, List.map_cons, List.map_nil]); first | done | rfl | (simp only [List.length_drop, List.length_take]; rfl)) ?_; refine (num_f w _ gb191 AR CR xr xq 4096 t196 xr1 xq1 (by (with_reducible repeat (first | refine blk_drewN ?_ _ | refine blk_drew ?_ | refine blk_alloc ?_ _)); exact BK191.out) HRR.out HCR.out (by repeat (first | (with_reducible first | exact HB.out | apply below_alloc | apply pw_below_drewN | apply below_drew1 | refine below_set ?_ GE189.out | refine below_set ?_ GE191.out | refine below_set ?_ GE194.out) | exact HB.out)) GE191.out A21.out).mono ?_; rintro e wr ⟨rfl, hset, AR, CR, hbk, hrr, hcr⟩; refine ⟨_, rfl, ?_⟩; have n0_ := Aside0.mk (hset.blk NB189_191.out (by (with_reducible repeat (first | refine blk_drewN ?_ _ | refine blk_drew ?_ | refine blk_alloc ?_ _)); exact BK189.out)); have n1_ := Aside0.mk (hset.blk NB194_191.out (by (with_reducible repeat (first | refine blk_drewN ?_ _ | refine blk_drew ?_ | refine blk_alloc ?_ _)); exact BK194.out)); have n2_ := Aside0.mk (Kd.R_mono (hset.R (fun _ hk => hk.2) (Kd.R_types HO_195001.out BK191.out (by decide))) (fun _ _ => trivial)); have n3_ := Aside0.mk (hset.bel (by repeat (first | (with_reducible first | exact HB.out | apply below_alloc | apply pw_below_drewN | apply below_drew1 | refine below_set ?_ GE189.out | refine below_set ?_ GE191.out | refine below_set ?_ GE194.out) | exact HB.out)) GE191.out); clear BK189 BK194 HO_195001 HB BK191 HRR HCR; have BK189 := n0_; have BK194 := n1_; have HO_195001 := n2_; have HB := n3_; have BK191 := Aside0.mk hbk; have HRR := Aside0.mk hrr; have HCR := Aside0.mk hcr; clear n0_ n1_ n2_ n3_ hset hbk hrr hcr) | ((with_reducible refine gate_callee (f := 19) rfl ?_); refine goesL_ (some 39) rfl rfl Try.func19 (by kernel_rfl) rfl #[.pointer (some ⟨gb191, 0, none⟩), .int .i64 2] rfl (by (try simp only [List.map_toArray, List.map_cons, List.map_nil]); first | done | rfl | (simp only [List.length_drop, List.length_take]; rfl)) ?_; refine (num_f w _ gb191 AR CR xr1 xq1 2 t197 xr2 xq2 (by (with_reducible repeat (first | refine blk_drewN ?_ _ | refine blk_drew ?_ | refine blk_alloc ?_ _)); exact BK191.out) HRR.out HCR.out (by repeat (first | (with_reducible first | exact HB.out | apply below_alloc | apply pw_below_drewN | apply below_drew1 | refine below_set ?_ GE189.out | refine below_set ?_ GE191.out | refine below_set ?_ GE194.out) | exact HB.out)) GE191.out A22.out).mono ?_; rintro e wr ⟨rfl, hset, AR, CR, hbk, hrr, hcr⟩; refine ⟨_, rfl, ?_⟩; have n0_ := Aside0.mk (hset.blk NB189_191.out (by (with_reducible repeat (first | refine blk_drewN ?_ _ | refine blk_drew ?_ | refine blk_alloc ?_ _)); exact BK189.out)); have n1_ := Aside0.mk (hset.blk NB194_191.out (by (with_reducible repeat (first | refine blk_drewN ?_ _ | refine blk_drew ?_ | refine blk_alloc ?_ _)); exact BK194.out)); have n2_ := Aside0.mk (Kd.R_mono (hset.R (fun _ hk => hk.2) (Kd.R_types HO_195001.out BK191.out (by decide))) (fun _ _ => trivial)); have n3_ := Aside0.mk (hset.bel (by repeat (first | (with_reducible first | exact HB.out | apply below_alloc | apply pw_below_drewN | apply below_drew1 | refine below_set ?_ GE189.out | refine below_set ?_ GE191.out | refine below_set ?_ GE194.out) | exact HB.out)) GE191.out); clear BK189 BK194 HO_195001 HB BK191 HRR HCR; have BK189 := n0_; have BK194 := n1_; have HO_195001 := n2_; have HB := n3_; have BK191 := Aside0.mk hbk; have HRR := Aside0.mk hrr; have HCR := Aside0.mk hcr; clear n0_ n1_ n2_ n3_ hset hbk hrr hcr) | ((with_reducible refine gate_dst (N := 7) rfl ?_); refine box_event ?hg (N := 7) ?hd (cs := #[.int .i64 0, .int .i64 0, .int .i64 0]) (t := 33) ?hr ?_; (case hd => rfl); (case hg => rfl); (case hr => first | (go_simp; done) | (go_simp; rfl)); intro gb198 hg w24 hbox hb; have n0_ := Aside0.mk (Kd.R_below (Kd.R_elderB (by (with_reducible repeat (first | apply Kd.R_alloc | apply Kd.R_drewN | apply Kd.R_drew)); exact HO_195001.out) gb198 (Nat.le_of_eq hg.symm)) hb); have n1_ := Aside0.mk (blk_below (g := gb189) (o := .cells #[.slice none 0 0, .slice none 0 0, .int .i64 0, .int .i64 0] 30 (0, 0)) (by (with_reducible repeat (first | refine blk_drewN ?_ _ | refine blk_drew ?_ | refine blk_alloc ?_ _)); exact BK189.out) hb); have n2_ := Aside0.mk (blk_below (g := gb191) (o := .cells #[.slice AR xr2.length CR, .bool xq2] 53 (0, 0)) (by (with_reducible repeat (first | refine blk_drewN ?_ _ | refine blk_drew ?_ | refine blk_alloc ?_ _)); exact BK191.out) hb); have n3_ := Aside0.mk (blk_below (g := gb194) (o := .cells #[.slice none 0 0, u195001, .int .i64 t193, .int .i64 t192] 30 (0, 0)) (by (with_reducible repeat (first | refine blk_drewN ?_ _ | refine blk_drew ?_ | refine blk_alloc ?_ _)); exact BK194.out) hb); have n4_ := Aside0.mk (below_step (by repeat (first | (with_reducible first | exact HB.out | apply below_alloc | apply pw_below_drewN | apply below_drew1 | refine below_set ?_ GE189.out | refine below_set ?_ GE191.out | refine below_set ?_ GE194.out) | exact HB.out)) hb); have n5_ := Aside0.mk (hbox); have n6_ := Aside0.mk ((by rw [hg]; exact (below_size (by repeat (first | (with_reducible first | exact HB.out | apply below_alloc | apply pw_below_drewN | apply below_drew1 | refine below_set ?_ GE189.out | refine below_set ?_ GE191.out | refine below_set ?_ GE194.out) | exact HB.out))) : w.heap.size ≤ gb198)); have n7_ := Aside0.mk ((by rw [hg]; exact (below_size (by repeat (first | (with_reducible first | exact HB.out | apply below_alloc | apply pw_below_drewN | apply below_drew1 | refine below_set ?_ GE189.out | refine below_set ?_ GE191.out | refine below_set ?_ GE194.out) | exact HB.out))) : w.heap.size ≤ gb198)); have n8_ := Aside0.mk ((by rw [hg]; exact Nat.ne_of_lt (blk_lt (g := gb189) (o := .cells #[.slice none 0 0, .slice none 0 0, .int .i64 0, .int .i64 0] 30 (0, 0)) (by (with_reducible repeat (first | refine blk_drewN ?_ _ | refine blk_drew ?_ | refine blk_alloc ?_ _)); exact BK189.out)) : gb189 ≠ gb198)); have n9_ := Aside0.mk ((by rw [hg]; exact Nat.ne_of_gt (blk_lt (g := gb189) (o := .cells #[.slice none 0 0, .slice none 0 0, .int .i64 0, .int .i64 0] 30 (0, 0)) (by (with_reducible repeat (first | refine blk_drewN ?_ _ | refine blk_drew ?_ | refine blk_alloc ?_ _)); exact BK189.out)) : gb198 ≠ gb189)); have n10_ := Aside0.mk ((by rw [hg]; exact Nat.ne_of_lt (blk_lt (g := gb191) (o := .cells #[.slice AR xr2.length CR, .bool xq2] 53 (0, 0)) (by (with_reducible repeat (first | refine blk_drewN ?_ _ | refine blk_drew ?_ | refine blk_alloc ?_ _)); exact BK191.out)) : gb191 ≠ gb198)); have n11_ := Aside0.mk ((by rw [hg]; exact Nat.ne_of_gt (blk_lt (g := gb191) (o := .cells #[.slice AR xr2.length CR, .bool xq2] 53 (0, 0)) (by (with_reducible repeat (first | refine blk_drewN ?_ _ | refine blk_drew ?_ | refine blk_alloc ?_ _)); exact BK191.out)) : gb198 ≠ gb191)); have n12_ := Aside0.mk ((by rw [hg]; exact Nat.ne_of_lt (blk_lt (g := gb194) (o := .cells #[.slice none 0 0, u195001, .int .i64 t193, .int .i64 t192] 30 (0, 0)) (by (with_reducible repeat (first | refine blk_drewN ?_ _ | refine blk_drew ?_ | refine blk_alloc ?_ _)); exact BK194.out)) : gb194 ≠ gb198)); have n13_ := Aside0.mk ((by rw [hg]; exact Nat.ne_of_gt (blk_lt (g := gb194) (o := .cells #[.slice none 0 0, u195001, .int .i64 t193, .int .i64 t192] 30 (0, 0)) (by (with_reducible repeat (first | refine blk_drewN ?_ _ | refine blk_drew ?_ | refine blk_alloc ?_ _)); exact BK194.out)) : gb198 ≠ gb194)); clear HO_195001; clear BK189; clear BK191; clear BK194; clear HB; have HO_195001 := n0_; have BK189 := n1_; have BK191 := n2_; have BK194 := n3_; have HB := n4_; have BK198 := n5_; have GW198 := n6_; have GE198 := n7_; have NB189_198 := n8_; have NB198_189 := n9_; have NB191_198 := n10_; have NB198_191 := n11_; have NB194_198 := n12_; have NB198_194 := n13_; clear n0_ n1_ n2_ n3_ n4_ n5_ n6_ n7_ n8_ n9_ n10_ n11_ n12_ n13_; clear hb hbox hg; have hnb25 := NB198_189.out; have hnc25 := NB189_198.out; have hnb26 := NB198_191.out; have hnc26 := NB191_198.out; have hnb27 := NB198_194.out; have hnc27 := NB194_198.out; have hcz28_0 : w24.cell? ⟨gb198, 0, none⟩ = some (.int .i64 0) := (blk_cell BK198.out 0).trans rfl; have hcz28_1 : w24.cell? ⟨gb198, 1, none⟩ = some (.int .i64 0) := (blk_cell BK198.out 1).trans rfl; have hcz28_2 : w24.cell? ⟨gb198, 2, none⟩ = some (.int .i64 0) := (blk_cell BK198.out 2).trans rfl; have hfz28_0 := blk_frozen BK198.out 0; have hfz28_1 := blk_frozen BK198.out 1; have hfz28_2 := blk_frozen BK198.out 2; have hnb29 := NB194_189.out; have hnc29 := NB189_194.out; have hnb30 := NB194_191.out; have hnc30 := NB191_194.out; have hcz31_0 : w24.cell? ⟨gb194, 0, none⟩ = some (.slice none 0 0) := (blk_cell BK194.out 0).trans rfl; have hcz31_1 : w24.cell? ⟨gb194, 1, none⟩ = some (u195001) := (blk_cell BK194.out 1).trans rfl; have hcz31_2 : w24.cell? ⟨gb194, 2, none⟩ = some (.int .i64 t193) := (blk_cell BK194.out 2).trans rfl; have hcz31_3 : w24.cell? ⟨gb194, 3, none⟩ = some (.int .i64 t192) := (blk_cell BK194.out 3).trans rfl; have hfz31_0 := blk_frozen BK194.out 0; have hfz31_1 := blk_frozen BK194.out 1; have hfz31_2 := blk_frozen BK194.out 2; have hfz31_3 := blk_frozen BK194.out 3) | ((with_reducible refine gate_builtin (b := .append) (xs := #[.tmp 46, .tmp 48]) rfl ?_); at_builtin; refine Kd.R_append k33 (w0 := w) w.heap.size rfl (.tmp 46) (.tmp 48) 28 33 (.agg #[(.int .i64 0), (.int .i64 0), (.int .i64 0)]) 24 rfl Try.underlying28 info33 rfl (by decide) (by omega) u195001 x195001_2 (⟨x6_2, t196, t197⟩ : S33) [.int .i64 x6_2, .int .i64 t196, .int .i64 t197] (fun k_ => k_ ≠ gb198) (fun _ => False) rfl (by first | (go_simp; done) | (go_simp; rfl)) ?aP (fun _ hk => hk.elim) ?aF ?aO ?aB ?aS ?aL ?_; (case aP => exact k33_mkM _ _ _ (⟨x6_2, t196, t197⟩ : S33)); (case aB => exact (by repeat (first | (with_reducible first | exact HB.out | apply below_alloc | apply pw_below_drewN | apply below_drew1 | refine below_set ?_ GE189.out | refine below_set ?_ GE191.out | refine below_set ?_ GE194.out | refine below_set ?_ GE198.out) | exact HB.out))); (case aF => exact (fun k_ hk => Kd.freshB (g := gb198) (o := .cells #[.int .i64 x6_2, .int .i64 t196, .int .i64 t197] 33 (0, 0)) (by (with_reducible repeat (first | refine blk_drewN ?_ _ | refine blk_drew ?_ | refine blk_alloc ?_ _)); refine blk_put (cs := #[.int .i64 x6_2, .int .i64 t196, .int .i64 0]) ?_ 2 _ rfl; (with_reducible repeat (first | refine blk_drewN ?_ _ | refine blk_drew ?_ | refine blk_alloc ?_ _)); refine blk_put (cs := #[.int .i64 x6_2, .int .i64 0, .int .i64 0]) ?_ 1 _ rfl; (with_reducible repeat (first | refine blk_drewN ?_ _ | refine blk_drew ?_ | refine blk_alloc ?_ _)); refine blk_put (cs := #[.int .i64 0, .int .i64 0, .int .i64 0]) ?_ 0 _ rfl; (with_reducible repeat (first | refine blk_drewN ?_ _ | refine blk_drew ?_ | refine blk_alloc ?_ _)); exact BK198.out) k_ hk)); (case aO => exact (by (with_reducible repeat (first | apply Kd.R_alloc | apply Kd.R_drewN | apply Kd.R_drew)); exact Kd.R_mono (Kd.R_far (p := ⟨gb198, 2, none⟩) (Kd.R_far (p := ⟨gb198, 1, none⟩) (Kd.R_far (p := ⟨gb198, 0, none⟩) (Kd.R_mono HO_195001.out (fun k_ hk => (⟨hk, hk.2⟩ : _ ∧ k_ ≠ gb198))) (fun _ hk => hk.2) (.int .i64 x6_2)) (fun _ hk => hk.2) (.int .i64 t196)) (fun _ hk => hk.2) (.int .i64 t197)) (fun _ hk => hk.1.2))); (case aS => exact (below_size (by repeat (first | (with_reducible first | exact HB.out | apply below_alloc | apply pw_below_drewN | apply below_drew1 | refine below_set ?_ GE189.out | refine below_set ?_ GE191.out | refine below_set ?_ GE194.out | refine below_set ?_ GE198.out) | exact HB.out)))); (case aL => have := LMc23.out; omega); intro v200 w32 ho hb hg hat; rw [← Ny199.out] at ho; have n0_ := Aside0.mk (blk_grown (g := gb189) (o := .cells #[.slice none 0 0, .slice none 0 0, .int .i64 0, .int .i64 0] 30 (0, 0)) (by (with_reducible repeat (first | refine blk_drewN ?_ _ | refine blk_drew ?_ | refine blk_alloc ?_ _)); refine blk_far ?_ NB189_198.out _; (with_reducible repeat (first | refine blk_drewN ?_ _ | refine blk_drew ?_ | refine blk_alloc ?_ _)); refine blk_far ?_ NB189_198.out _; (with_reducible repeat (first | refine blk_drewN ?_ _ | refine blk_drew ?_ | refine blk_alloc ?_ _)); refine blk_far ?_ NB189_198.out _; (with_reducible repeat (first | refine blk_drewN ?_ _ | refine blk_drew ?_ | refine blk_alloc ?_ _)); exact BK189.out) hg (Kd.R_ne HO_195001.out BK189.out (by decide))); have n1_ := Aside0.mk (blk_grown (g := gb191) (o := .cells #[.slice AR xr2.length CR, .bool xq2] 53 (0, 0)) (by (with_reducible repeat (first | refine blk_drewN ?_ _ | refine blk_drew ?_ | refine blk_alloc ?_ _)); refine blk_far ?_ NB191_198.out _; (with_reducible repeat (first | refine blk_drewN ?_ _ | refine blk_drew ?_ | refine blk_alloc ?_ _)); refine blk_far ?_ NB191_198.out _; (with_reducible repeat (first | refine blk_drewN ?_ _ | refine blk_drew ?_ | refine blk_alloc ?_ _)); refine blk_far ?_ NB191_198.out _; (with_reducible repeat (first | refine blk_drewN ?_ _ | refine blk_drew ?_ | refine blk_alloc ?_ _)); exact BK191.out) hg (Kd.R_ne HO_195001.out BK191.out (by decide))); have n2_ := Aside0.mk (blk_grown (g := gb194) (o := .cells #[.slice none 0 0, u195001, .int .i64 t193, .int .i64 t192] 30 (0, 0)) (by (with_reducible repeat (first | refine blk_drewN ?_ _ | refine blk_drew ?_ | refine blk_alloc ?_ _)); refine blk_far ?_ NB194_198.out _; (with_reducible repeat (first | refine blk_drewN ?_ _ | refine blk_drew ?_ | refine blk_alloc ?_ _)); refine blk_far ?_ NB194_198.out _; (with_reducible repeat (first | refine blk_drewN ?_ _ | refine blk_drew ?_ | refine blk_alloc ?_ _)); refine blk_far ?_ NB194_198.out _; (with_reducible repeat (first | refine blk_drewN ?_ _ | refine blk_drew ?_ | refine blk_alloc ?_ _)); exact BK194.out) hg (Kd.R_ne HO_195001.out BK194.out (by decide))); have n3_ := Aside0.mk (blk_grown (g := gb198) (o := .cells #[.int .i64 x6_2, .int .i64 t196, .int .i64 t197] 33 (0, 0)) (by (with_reducible repeat (first | refine blk_drewN ?_ _ | refine blk_drew ?_ | refine blk_alloc ?_ _)); refine blk_put (cs := #[.int .i64 x6_2, .int .i64 t196, .int .i64 0]) ?_ 2 _ rfl; (with_reducible repeat (first | refine blk_drewN ?_ _ | refine blk_drew ?_ | refine blk_alloc ?_ _)); refine blk_put (cs := #[.int .i64 x6_2, .int .i64 0, .int .i64 0]) ?_ 1 _ rfl; (with_reducible repeat (first | refine blk_drewN ?_ _ | refine blk_drew ?_ | refine blk_alloc ?_ _)); refine blk_put (cs := #[.int .i64 0, .int .i64 0, .int .i64 0]) ?_ 0 _ rfl; (with_reducible repeat (first | refine blk_drewN ?_ _ | refine blk_drew ?_ | refine blk_alloc ?_ _)); exact BK198.out) hg (Kd.R_away HO_195001.out (fun _ hk => hk.2))); have n4_ := Aside0.mk (hb); have n5_ := Aside0.mk (ho); clear BK189; clear BK191; clear BK194; clear BK198; clear HB; clear HO_195001; have BK189 := n0_; have BK191 := n1_; have BK194 := n2_; have BK198 := n3_; have HB := n4_; have HO201 := n5_; clear n0_ n1_ n2_ n3_ n4_ n5_; clear ho hb hg hat; obtain ⟨Ao33, co33, eo33⟩ := Kd.R_slice HO201.out; subst eo33; have hcz34_0 : w32.cell? ⟨gb194, 0, none⟩ = some (.slice none 0 0) := (blk_cell BK194.out 0).trans rfl; have hcz34_1 : w32.cell? ⟨gb194, 1, none⟩ = some (u195001) := (blk_cell BK194.out 1).trans rfl; have hcz34_2 : w32.cell? ⟨gb194, 2, none⟩ = some (.int .i64 t193) := (blk_cell BK194.out 2).trans rfl; have hcz34_3 : w32.cell? ⟨gb194, 3, none⟩ = some (.int .i64 t192) := (blk_cell BK194.out 3).trans rfl; have hfz34_0 := blk_frozen BK194.out 0; have hfz34_1 := blk_frozen BK194.out 1; have hfz34_2 := blk_frozen BK194.out 2; have hfz34_3 := blk_frozen BK194.out 3))
                go_roundg k2
                case measure => have := HJ1.out; have := HK2.out; omega
                case rel => exact ⟨(wrap64 (x6_2 + t196)), (wrap64 (x33_2 + 1)), (y199), (.slice Ao33 y199.length co33), AR, CR, xr2, xq2, (by first | rfl | (simp; done) | (simp [*]; done)), (by first | rfl | (simp; done) | (simp [*]; done)), H', ⟨by have := HJ1.out; have := HK2.out; omega⟩, ⟨by (with_reducible repeat (first | apply Kd.R_alloc | apply Kd.R_drewN | apply Kd.R_drew)); exact Kd.R_mono (Kd.R_far (p := ⟨gb194, 1, none⟩) (Kd.R_types HO201.out BK194.out (by decide)) (fun _ hk => hk.2) (.slice Ao33 y199.length co33)) (fun _ hk => trivial)⟩, ⟨by (with_reducible repeat (first | refine blk_drewN ?_ _ | refine blk_drew ?_ | refine blk_alloc ?_ _)); refine blk_far ?_ NB189_194.out _; (with_reducible repeat (first | refine blk_drewN ?_ _ | refine blk_drew ?_ | refine blk_alloc ?_ _)); exact BK189.out⟩, ⟨by (with_reducible repeat (first | refine blk_drewN ?_ _ | refine blk_drew ?_ | refine blk_alloc ?_ _)); refine blk_far ?_ NB191_194.out _; (with_reducible repeat (first | refine blk_drewN ?_ _ | refine blk_drew ?_ | refine blk_alloc ?_ _)); exact BK191.out⟩, ⟨by (with_reducible repeat (first | refine blk_drewN ?_ _ | refine blk_drew ?_ | refine blk_alloc ?_ _)); refine blk_put (cs := #[.slice none 0 0, u195001, .int .i64 t193, .int .i64 t192]) ?_ 1 _ rfl; (with_reducible repeat (first | refine blk_drewN ?_ _ | refine blk_drew ?_ | refine blk_alloc ?_ _)); exact BK194.out⟩, ⟨by repeat (first | (with_reducible first | exact HB.out | apply below_alloc | apply pw_below_drewN | apply below_drew1 | refine below_set ?_ GE189.out | refine below_set ?_ GE191.out | refine below_set ?_ GE194.out | refine below_set ?_ GE198.out) | exact HB.out)⟩, HRR, HCR⟩
              · rw [if_neg c23] at H
                exact absurd H (by simp)
            · rw [if_neg c20] at H
              have c20b0 : decide (x33_2 < t195) = false := decide_eq_false c20
              clear c20
              replace H := Option.bind_eq_some_iff.mp H
              obtain ⟨⟨t202, xr4, xq4⟩, A350, H⟩ := H
              replace H : (if xq4 = true then (image_Decode.j2 k2 xr4 t202 true x195001_2 t193 t192) else (image_Decode.j2 k2 xr4 t202 ((xr4.length : Int) != (wrap64 (t202 * 13))) x195001_2 t193 t192)) = some (r1, r2, r3, r4, r5) := H
              have A35 := Aside0.mk A350
              clear A350
              have HC36 := Aside0.mk H
              clear H
              go_upto_region 13 with (first | ((with_reducible refine gate_callee (f := 19) rfl ?_); refine goesL_ (some 53) rfl rfl Try.func19 (by kernel_rfl) rfl #[.pointer (some ⟨gb191, 0, none⟩), .int .i64 32768] rfl (by (try simp only [List.map_toArray, List.map_cons, List.map_nil]); first | done | rfl | (simp only [List.length_drop, List.length_take]; rfl)) ?_; refine (num_f w _ gb191 AR CR xr xq 32768 t202 xr4 xq4 (by (with_reducible repeat (first | refine blk_drewN ?_ _ | refine blk_drew ?_ | refine blk_alloc ?_ _)); exact BK191.out) HRR.out HCR.out (by repeat (first | (with_reducible first | exact HB.out | apply below_alloc | apply pw_below_drewN | apply below_drew1 | refine below_set ?_ GE189.out | refine below_set ?_ GE191.out | refine below_set ?_ GE194.out) | exact HB.out)) GE191.out A35.out).mono ?_; rintro e wr ⟨rfl, hset, AR, CR, hbk, hrr, hcr⟩; refine ⟨_, rfl, ?_⟩; have n0_ := Aside0.mk (hset.blk NB189_191.out (by (with_reducible repeat (first | refine blk_drewN ?_ _ | refine blk_drew ?_ | refine blk_alloc ?_ _)); exact BK189.out)); have n1_ := Aside0.mk (hset.blk NB194_191.out (by (with_reducible repeat (first | refine blk_drewN ?_ _ | refine blk_drew ?_ | refine blk_alloc ?_ _)); exact BK194.out)); have n2_ := Aside0.mk (Kd.R_mono (hset.R (fun _ hk => hk.2) (Kd.R_types HO_195001.out BK191.out (by decide))) (fun _ _ => trivial)); have n3_ := Aside0.mk (hset.bel (by repeat (first | (with_reducible first | exact HB.out | apply below_alloc | apply pw_below_drewN | apply below_drew1 | refine below_set ?_ GE189.out | refine below_set ?_ GE191.out | refine below_set ?_ GE194.out) | exact HB.out)) GE191.out); clear BK189 BK194 HO_195001 HB BK191 HRR HCR; have BK189 := n0_; have BK194 := n1_; have HO_195001 := n2_; have HB := n3_; have BK191 := Aside0.mk hbk; have HRR := Aside0.mk hrr; have HCR := Aside0.mk hcr; clear n0_ n1_ n2_ n3_ hset hbk hrr hcr))
              (try simp only [Act.put, List.setIfInBounds_toArray, List.set_cons_zero, List.set_cons_succ])
              go_cut [67] (fun v67 wc => ∃ (kq : Nat) (x67_35 : Bool), v67 = .bool x67_35 ∧ Aside0 (image_Decode.j2 kq xr4 t202 x67_35 x195001_2 t193 t192 = some (r1, r2, r3, r4, r5)) ∧ Aside0 (kq ≤ k2) ∧ Aside0 (Kd.R k33 33 wc w.heap.size (fun _ => True) u195001 x195001_2) ∧ Aside0 (wc.heap[gb189]? = some (.cells #[(.slice none 0 0), (.slice none 0 0), .int .i64 0, .int .i64 0] 30 (0, 0))) ∧ Aside0 (wc.heap[gb191]? = some (.cells #[.slice AR xr4.length CR, .bool xq4] 53 (0, 0))) ∧ Aside0 (wc.heap[gb194]? = some (.cells #[(.slice none 0 0), u195001, .int .i64 t193, .int .i64 t192] 30 (0, 0))) ∧ Aside0 (Below w.heap.size w wc))
              case first =>
                have H := HC36.out
                clear HC36
                by_cases c37 : xq4 = true
                · rw [if_pos c37] at H
                  have c37b0 : xq4 = true := c37; subst c37b0
                  clear c37

                  have H' := Aside0.mk H
                  clear H
                  have hnb38 := NB191_189.out
                  have hnc38 := NB189_191.out
                  have hnb39 := NB191_194.out
                  have hnc39 := NB194_191.out
                  have hcz40_0 : wr.cell? ⟨gb191, 0, none⟩ = some (.slice AR xr4.length CR) := (blk_cell BK191.out 0).trans rfl
                  have hcz40_1 : wr.cell? ⟨gb191, 1, none⟩ = some (.bool true) := (blk_cell BK191.out 1).trans rfl
                  have hfz40_0 := blk_frozen BK191.out 0
                  have hfz40_1 := blk_frozen BK191.out 1
                  go_wp2
                  go_meet
                  case rel => exact ⟨_, (true), (by first | rfl | (simp; done) | (simp [*]; done)), H', ⟨by have := HJ1.out; have := HK2.out; first | omega | exact Nat.le_refl _⟩, ⟨by (with_reducible repeat (first | apply Kd.R_alloc | apply Kd.R_drewN | apply Kd.R_drew)); exact HO_195001.out⟩, ⟨by (with_reducible repeat (first | refine blk_drewN ?_ _ | refine blk_drew ?_ | refine blk_alloc ?_ _)); exact BK189.out⟩, ⟨by (with_reducible repeat (first | refine blk_drewN ?_ _ | refine blk_drew ?_ | refine blk_alloc ?_ _)); exact BK191.out⟩, ⟨by (with_reducible repeat (first | refine blk_drewN ?_ _ | refine blk_drew ?_ | refine blk_alloc ?_ _)); exact BK194.out⟩, ⟨by repeat (first | (with_reducible first | exact HB.out | apply below_alloc | apply pw_below_drewN | apply below_drew1 | refine below_set ?_ GE189.out | refine below_set ?_ GE191.out | refine below_set ?_ GE194.out) | exact HB.out)⟩⟩
                · rw [if_neg c37] at H
                  have c37b0 : xq4 = false := by simpa using c37
                  subst c37b0
                  clear c37

                  have H' := Aside0.mk H
                  clear H
                  have hnb41 := NB191_189.out
                  have hnc41 := NB189_191.out
                  have hnb42 := NB191_194.out
                  have hnc42 := NB194_191.out
                  have hcz43_0 : wr.cell? ⟨gb191, 0, none⟩ = some (.slice AR xr4.length CR) := (blk_cell BK191.out 0).trans rfl
                  have hcz43_1 : wr.cell? ⟨gb191, 1, none⟩ = some (.bool false) := (blk_cell BK191.out 1).trans rfl
                  have hfz43_0 := blk_frozen BK191.out 0
                  have hfz43_1 := blk_frozen BK191.out 1
                  go_wp2
                  go_meet
                  case rel => exact ⟨_, (((xr4.length : Int) != (wrap64 (t202 * 13)))), (by first | rfl | (simp; done) | (simp [*]; done)), H', ⟨by have := HJ1.out; have := HK2.out; first | omega | exact Nat.le_refl _⟩, ⟨by (with_reducible repeat (first | apply Kd.R_alloc | apply Kd.R_drewN | apply Kd.R_drew)); exact HO_195001.out⟩, ⟨by (with_reducible repeat (first | refine blk_drewN ?_ _ | refine blk_drew ?_ | refine blk_alloc ?_ _)); exact BK189.out⟩, ⟨by (with_reducible repeat (first | refine blk_drewN ?_ _ | refine blk_drew ?_ | refine blk_alloc ?_ _)); exact BK191.out⟩, ⟨by (with_reducible repeat (first | refine blk_drewN ?_ _ | refine blk_drew ?_ | refine blk_alloc ?_ _)); exact BK194.out⟩, ⟨by repeat (first | (with_reducible first | exact HB.out | apply below_alloc | apply pw_below_drewN | apply below_drew1 | refine below_set ?_ GE189.out | refine below_set ?_ GE191.out | refine below_set ?_ GE194.out) | exact HB.out)⟩⟩
              case rest =>
                clear HC36
                try clear c1
                try clear c2
                try clear p2
                try clear c3
                try clear c4
                try clear c4b0
                try clear c4b1
                try clear c5
                try clear c5b0
                try clear c5b1
                try clear p6
                try clear hcv7
                try clear c8
                try clear c13
                try clear c14
                try clear c17
                try clear c18
                try clear c20
                try clear c20b0
                try clear c23
                try clear c25
                try clear c26
                try clear c27
                try clear c29
                try clear c30
                try clear c37
                try clear c37b0
                try clear c38
                try clear c39
                try clear c40
                try clear c41
                try clear c42
                try clear hcz15_0
                try clear hcz15_1
                try clear hcz19_0
                try clear hcz19_1
                try clear hcz19_2
                try clear hcz19_3
                try clear hcz28_0
                try clear hcz28_1
                try clear hcz28_2
                try clear hcz31_0
                try clear hcz31_1
                try clear hcz31_2
                try clear hcz31_3
                try clear hcz34_0
                try clear hcz34_1
                try clear hcz34_2
                try clear hcz34_3
                try clear hcz40_0
                try clear hcz40_1
                try clear hcz43_0
                try clear hcz43_1
                try clear hcz9_0
                try clear hcz9_1
                try clear hcz9_2
                try clear hcz9_3
                try clear hfz15_0
                try clear hfz15_1
                try clear hfz19_0
                try clear hfz19_1
                try clear hfz19_2
                try clear hfz19_3
                try clear hfz28_0
                try clear hfz28_1
                try clear hfz28_2
                try clear hfz31_0
                try clear hfz31_1
                try clear hfz31_2
                try clear hfz31_3
                try clear hfz34_0
                try clear hfz34_1
                try clear hfz34_2
                try clear hfz34_3
                try clear hfz40_0
                try clear hfz40_1
                try clear hfz43_0
                try clear hfz43_1
                try clear hfz9_0
                try clear hfz9_1
                try clear hfz9_2
                try clear hfz9_3
                try clear p2
                obtain ⟨kq, x67_35, rfl, HA, HJ35, HO_195001, BK189, BK191, BK194, HB⟩ := hcut
                cases kq with
                | zero => exact absurd HA.out (by simp [image_Decode.j2])
                | succ kj35 =>
                  have H := HA.out
                  clear HA
                  simp only [image_Decode.j2] at H
                  by_cases c44 : x67_35 = true
                  · subst c44
                    have H1 : (some (([] : List (S26)), ([] : List (S33)), 0, 0, 2)) = some (r1, r2, r3, r4, r5) := by rw [if_pos rfl] at H; exact H
                    clear H
                    have H := H1
                    clear H1
                    simp only [Option.some.injEq, Prod.mk.injEq] at H
                    obtain ⟨rfl, rfl, rfl, rfl, rfl⟩ := H
                    have hnb45 := NB189_191.out
                    have hnc45 := NB191_189.out
                    have hnb46 := NB189_194.out
                    have hnc46 := NB194_189.out
                    have hcz47_0 : wc.cell? ⟨gb189, 0, none⟩ = some (.slice none 0 0) := (blk_cell BK189.out 0).trans rfl
                    have hcz47_1 : wc.cell? ⟨gb189, 1, none⟩ = some (.slice none 0 0) := (blk_cell BK189.out 1).trans rfl
                    have hcz47_2 : wc.cell? ⟨gb189, 2, none⟩ = some (.int .i64 0) := (blk_cell BK189.out 2).trans rfl
                    have hcz47_3 : wc.cell? ⟨gb189, 3, none⟩ = some (.int .i64 0) := (blk_cell BK189.out 3).trans rfl
                    have hfz47_0 := blk_frozen BK189.out 0
                    have hfz47_1 := blk_frozen BK189.out 1
                    have hfz47_2 := blk_frozen BK189.out 2
                    have hfz47_3 := blk_frozen BK189.out 3
                    go_wp2
                    refine bodyPost_ret (results_ct rfl _ _ gb189 30 #[.slice none 0 0, .slice none 0 0, .int .i64 0, .int .i64 0] (0, 0) _ rfl (by (with_reducible repeat (first | refine blk_drewN ?_ _ | refine blk_drew ?_ | refine blk_alloc ?_ _)); refine blk_put (cs := #[.slice none 0 0, .slice none 0 0, .int .i64 0, .int .i64 0]) ?_ 3 _ rfl; (with_reducible repeat (first | refine blk_drewN ?_ _ | refine blk_drew ?_ | refine blk_alloc ?_ _)); refine blk_put (cs := #[.slice none 0 0, .slice none 0 0, .int .i64 0, .int .i64 0]) ?_ 2 _ rfl; (with_reducible repeat (first | refine blk_drewN ?_ _ | refine blk_drew ?_ | refine blk_alloc ?_ _)); refine blk_put (cs := #[.slice none 0 0, .slice none 0 0, .int .i64 0, .int .i64 0]) ?_ 1 _ rfl; (with_reducible repeat (first | refine blk_drewN ?_ _ | refine blk_drew ?_ | refine blk_alloc ?_ _)); refine blk_put (cs := #[.slice none 0 0, .slice none 0 0, .int .i64 0, .int .i64 0]) ?_ 0 _ rfl; (with_reducible repeat (first | refine blk_drewN ?_ _ | refine blk_drew ?_ | refine blk_alloc ?_ _)); exact BK189.out) Try.underlying30 rfl (by kernel_rfl)) rfl ?_
                    exact ⟨_, _, by first | rfl | (simp [errW_none, errW_some] <;> rfl) | (simp [*, errW_none, errW_some] <;> rfl), by first | exact Kd.R_nil _ _ _ _ _ | exact Kd.N_nil _ _ _ _ _ | exact Kd.V_nil _ _ _ _ _ | exact Kd.Q_nil _ _ _ _ _ | exact Kd.S_nil _ _ _ _ _, by first | exact Kd.R_nil _ _ _ _ _ | exact Kd.N_nil _ _ _ _ _ | exact Kd.V_nil _ _ _ _ _ | exact Kd.Q_nil _ _ _ _ _ | exact Kd.S_nil _ _ _ _ _, by repeat (first | (with_reducible first | exact HB.out | apply below_alloc | apply pw_below_drewN | apply below_drew1 | refine below_set ?_ GE189.out | refine below_set ?_ GE191.out | refine below_set ?_ GE194.out) | exact HB.out)⟩
                  · replace c44 := Bool.eq_false_iff.mpr c44
                    subst c44
                    have H1 : (image_Decode.l1 kj35 xr4 t202 0 ([] : List (S26)) x195001_2 t193 t192) = some (r1, r2, r3, r4, r5) := by rw [if_neg (show ¬ (false = true) by decide)] at H; exact H
                    clear H
                    have H := H1
                    clear H1
                    have H' := Aside0.mk H
                    clear H
                    go_wp2
                    go_loopg [70] kj35 (fun kq v70 w' => ∃ (x70_4 : Int) (x190002_4 : Int) (x190003_4 : Int) (x195000_4 : List (S26)) (u195000 : Value), v70 = .int .i64 x70_4 ∧ Aside0 (image_Decode.l1 kq xr4 t202 x70_4 x195000_4 x195001_2 t193 t192 = some (r1, r2, r3, r4, r5)) ∧ Aside0 (kq ≤ kj35) ∧ Aside0 (Kd.R k26 26 w' w.heap.size (fun _ => True) u195000 x195000_4) ∧ Aside0 (Kd.R k33 33 w' w.heap.size (fun _ => True) u195001 x195001_2) ∧ Aside0 (w'.heap[gb189]? = some (.cells #[(.slice none 0 0), (.slice none 0 0), .int .i64 x190002_4, .int .i64 x190003_4] 30 (0, 0))) ∧ Aside0 (w'.heap[gb191]? = some (.cells #[.slice AR xr4.length CR, .bool xq4] 53 (0, 0))) ∧ Aside0 (w'.heap[gb194]? = some (.cells #[u195000, u195001, .int .i64 t193, .int .i64 t192] 30 (0, 0))) ∧ Aside0 (Below w.heap.size w w'))
                    case atStart => exact ⟨(0), (0), (0), (([] : List (S26))), (.slice none 0 0), (by first | rfl | (simp; done) | (simp [*]; done)), H', ⟨Nat.le_refl _⟩, ⟨by first | exact Kd.R_nil _ _ _ _ _ | exact Kd.N_nil _ _ _ _ _ | exact Kd.V_nil _ _ _ _ _ | exact Kd.Q_nil _ _ _ _ _ | exact Kd.S_nil _ _ _ _ _⟩, ⟨by (with_reducible repeat (first | apply Kd.R_alloc | apply Kd.R_drewN | apply Kd.R_drew)); exact HO_195001.out⟩, ⟨by (with_reducible repeat (first | refine blk_drewN ?_ _ | refine blk_drew ?_ | refine blk_alloc ?_ _)); exact BK189.out⟩, ⟨by (with_reducible repeat (first | refine blk_drewN ?_ _ | refine blk_drew ?_ | refine blk_alloc ?_ _)); exact BK191.out⟩, ⟨by (with_reducible repeat (first | refine blk_drewN ?_ _ | refine blk_drew ?_ | refine blk_alloc ?_ _)); exact BK194.out⟩, ⟨by repeat (first | (with_reducible first | exact HB.out | apply below_alloc | apply pw_below_drewN | apply below_drew1 | refine below_set ?_ GE189.out | refine below_set ?_ GE191.out | refine below_set ?_ GE194.out) | exact HB.out)⟩⟩
                    case round =>
                      clear H'
                      try clear c1
                      try clear c2
                      try clear p2
                      try clear c3
                      try clear c4
                      try clear c4b0
                      try clear c4b1
                      try clear c5
                      try clear c5b0
                      try clear c5b1
                      try clear p6
                      try clear hcv7
                      try clear c8
                      try clear c13
                      try clear c14
                      try clear c17
                      try clear c18
                      try clear c20
                      try clear c20b0
                      try clear c23
                      try clear c25
                      try clear c26
                      try clear c27
                      try clear c29
                      try clear c30
                      try clear c37
                      try clear c37b0
                      try clear c38
                      try clear c39
                      try clear c40
                      try clear c41
                      try clear c42
                      try clear c44
                      try clear c45
                      try clear c46
                      try clear hcz15_0
                      try clear hcz15_1
                      try clear hcz19_0
                      try clear hcz19_1
                      try clear hcz19_2
                      try clear hcz19_3
                      try clear hcz28_0
                      try clear hcz28_1
                      try clear hcz28_2
                      try clear hcz31_0
                      try clear hcz31_1
                      try clear hcz31_2
                      try clear hcz31_3
                      try clear hcz34_0
                      try clear hcz34_1
                      try clear hcz34_2
                      try clear hcz34_3
                      try clear hcz40_0
                      try clear hcz40_1
                      try clear hcz43_0
                      try clear hcz43_1
                      try clear hcz47_0
                      try clear hcz47_1
                      try clear hcz47_2
                      try clear hcz47_3
                      try clear hcz9_0
                      try clear hcz9_1
                      try clear hcz9_2
                      try clear hcz9_3
                      try clear hfz15_0
                      try clear hfz15_1
                      try clear hfz19_0
                      try clear hfz19_1
                      try clear hfz19_2
                      try clear hfz19_3
                      try clear hfz28_0
                      try clear hfz28_1
                      try clear hfz28_2
                      try clear hfz31_0
                      try clear hfz31_1
                      try clear hfz31_2
                      try clear hfz31_3
                      try clear hfz34_0
                      try clear hfz34_1
                      try clear hfz34_2
                      try clear hfz34_3
                      try clear hfz40_0
                      try clear hfz40_1
                      try clear hfz43_0
                      try clear hfz43_1
                      try clear hfz47_0
                      try clear hfz47_1
                      try clear hfz47_2
                      try clear hfz47_3
                      try clear hfz9_0
                      try clear hfz9_1
                      try clear hfz9_2
                      try clear hfz9_3
                      try clear p2
                      try clear p6
                      obtain ⟨x70_4, x190002_4, x190003_4, x195000_4, u195000, rfl, HA, HK4, HO_195000, HO_195001, BK189, BK191, BK194, HB⟩ := hrel
                      cases gk with
                      | zero => exact absurd HA.out (by simp [image_Decode.l1])
                      | succ k4 =>
                        have H := HA.out
                        clear HA
                        simp only [image_Decode.l1] at H
                        by_cases c48 : x70_4 < t202
                        · rw [if_pos c48] at H
                          have c48b0 : decide (x70_4 < t202) = true := decide_eq_true c48
                          clear c48
                          obtain ⟨ji49, hji49⟩ : ∃ j_ : Int, (wrap64 (x70_4 * 13)) = j_ := ⟨_, rfl⟩
                          replace H : (if 0 ≤ (ji49) then (if (ji49) ≤ (wrap64 ((wrap64 (x70_4 + 1)) * 13)) then (if (wrap64 ((wrap64 (x70_4 + 1)) * 13)) ≤ (xr4.length : Int) then ((code_Decode.f k4 ((xr4.take ((wrap64 ((wrap64 (x70_4 + 1)) * 13)) : Int).toNat).drop ((ji49) : Int).toNat)).bind fun bt204 => (if bt204.2.2.2.2.2.2 = 0 then (if x195000_4.length < 2932031007402 then (image_Decode.l1 k4 xr4 t202 (wrap64 (x70_4 + 1)) (x195000_4 ++ [(⟨bt204.1, bt204.2.1, bt204.2.2.1, bt204.2.2.2.1, bt204.2.2.2.2.1, bt204.2.2.2.2.2.1⟩ : S26)]) x195001_2 t193 t192) else (none)) else (some (([] : List (S26)), ([] : List (S33)), 0, 0, bt204.2.2.2.2.2.2)))) else (none)) else (none)) else (none)) = some (r1, r2, r3, r4, r5) := by first | (rw [hji49] at H; exact H) | (simp only [hji49] at H ⊢; exact H)
                          have hji49w : (IntKind.i64.wrap (x70_4 * 13)) = ji49 := (i64_w _).trans hji49
                          by_cases c50 : 0 ≤ (ji49)
                          · rw [if_pos c50] at H
                            have c50b0 := eq_true c50
                            have c50b1 : decide (0 ≤ (ji49)) = true := decide_eq_true c50
                            clear c50
                            by_cases c51 : (ji49) ≤ (wrap64 ((wrap64 (x70_4 + 1)) * 13))
                            · rw [if_pos c51] at H
                              have c51b0 := eq_true c51
                              have c51b1 : decide ((ji49) ≤ (wrap64 ((wrap64 (x70_4 + 1)) * 13))) = true := decide_eq_true c51
                              by_cases c52 : (wrap64 ((wrap64 (x70_4 + 1)) * 13)) ≤ (xr4.length : Int)
                              · rw [if_pos c52] at H
                                have c52b0 := eq_true c52
                                have c52b1 : decide ((wrap64 ((wrap64 (x70_4 + 1)) * 13)) ≤ (xr4.length : Int)) = true := decide_eq_true c52
                                replace H := Option.bind_eq_some_iff.mp H
                                obtain ⟨⟨t204, t205, t206, t207, t208, t209, t210⟩, A530, H⟩ := H
                                replace H : (if t210 = 0 then (if x195000_4.length < 2932031007402 then (image_Decode.l1 k4 xr4 t202 (wrap64 (x70_4 + 1)) (x195000_4 ++ [(⟨t204, t205, t206, t207, t208, t209⟩ : S26)]) x195001_2 t193 t192) else (none)) else (some (([] : List (S26)), ([] : List (S33)), 0, 0, t210))) = some (r1, r2, r3, r4, r5) := H
                                have A53 := Aside0.mk A530
                                clear A530
                                by_cases c54 : t210 = 0
                                · rw [if_pos c54] at H
                                  have c54b0 : (t210 == 0) = true := beq_iff_eq.mpr c54
                                  have c54b1 : (t210 != 0) = false := bne_eq_false_iff_eq.mpr c54
                                  clear c54
                                  by_cases c55 : x195000_4.length < 2932031007402
                                  · rw [if_pos c55] at H
                                    have LMc55 := Aside0.mk c55
                                    clear c55
                                    obtain ⟨y212, hy212⟩ : ∃ y_ : List (S26), y_ = (x195000_4 ++ [(⟨t204, t205, t206, t207, t208, t209⟩ : S26)]) := ⟨_, rfl⟩
                                    replace H : (image_Decode.l1 k4 xr4 t202 (wrap64 (x70_4 + 1)) y212 x195001_2 t193 t192) = some (r1, r2, r3, r4, r5) := by first | (rw [hy212]; with_reducible exact H) | (have H2_ := (Option.bind_some _ _).symm.trans H; rw [hy212]; with_reducible exact H2_) | (have H2_ := (Option.bind_some _ _).symm.trans H; with_reducible exact H2_) | with_reducible exact H | (rw [hy212]; exact H) | exact H
                                    have Ny212 := Aside0.mk hy212
                                    clear hy212
                                    have H' := Aside0.mk H
                                    clear H
                                    have hnb56 := NB191_189.out
                                    have hnc56 := NB189_191.out
                                    have hnb57 := NB191_194.out
                                    have hnc57 := NB194_191.out
                                    have hcz58_0 : wr.cell? ⟨gb191, 0, none⟩ = some (.slice AR xr4.length CR) := (blk_cell BK191.out 0).trans rfl
                                    have hcz58_1 : wr.cell? ⟨gb191, 1, none⟩ = some (.bool xq4) := (blk_cell BK191.out 1).trans rfl
                                    have hfz58_0 := blk_frozen BK191.out 0
                                    have hfz58_1 := blk_frozen BK191.out 1
                                    obtain ⟨i059, hi059, _, hsz59, _⟩ := info_parts info5
                                    obtain ⟨A59, hcut59, hA59, hC59⟩ := print_mid_of (P := Try.prog) (Value.int .u8) 0 41 5 .i64 .i64 Try.underlying41 hi059 hsz59 AR CR xr4 (ji49) (wrap64 ((wrap64 (x70_4 + 1)) * 13)) (of_decide_eq_true (by first | (with_reducible assumption) | assumption)) (by first | omega | exact of_decide_eq_true (by first | (with_reducible assumption) | assumption)) (of_decide_eq_true (by first | (with_reducible assumption) | assumption)) HCR.out
                                    have HR203 := Aside0.mk (Kd.C_of_reads (h1 := fun _ => rfl) (hA59 _ (Kd.reads_of_C HRR.out)))
                                    have HC203 := Aside0.mk hC59
                                    clear hA59 hC59 hi059 hsz59
                                    go_wp2_with (first | ((with_reducible refine gate_callee (f := 20) rfl ?_); refine goesL_ (some 84) rfl rfl Try.func20 (by kernel_rfl) rfl #[.slice A59 ((xr4.take ((wrap64 ((wrap64 (x70_4 + 1)) * 13)) : Int).toNat).drop ((ji49) : Int).toNat).length (CR - (ji49).toNat)] rfl (by (try simp only [List.map_toArray, List.map_cons, List.map_nil]); first | done | (rw [show ((xr4.take ((wrap64 ((wrap64 (x70_4 + 1)) * 13)) : Int).toNat).drop ((ji49) : Int).toNat).length = ((wrap64 ((wrap64 (x70_4 + 1)) * 13)).toNat - (ji49).toNat) from (by rw [List.length_drop, List.length_take]; have h_ : ((wrap64 ((wrap64 (x70_4 + 1)) * 13)) : Int) ≤ (xr4.length : Int) := of_decide_eq_true (by first | (with_reducible assumption) | assumption); omega)] <;> rfl) | (simp only [hji49]; rfl) | rfl | (simp only [List.length_drop, List.length_take]; rfl)) ?_; (with_reducible refine (code_Decode.calls k4 _ _ ((xr4.take ((wrap64 ((wrap64 (x70_4 + 1)) * 13)) : Int).toNat).drop ((ji49) : Int).toNat) t204 t205 t206 t207 t208 t209 t210 _ ?side1 ?side2 A53.out).mono ?_); (case side1 => repeat (first | exact (Kd.C_below HR203.out HB.out) | (with_reducible refine Kd.C_alloc ?_ _) | (with_reducible refine Kd.C_drewN ?_ _) | (with_reducible refine Kd.C_drew ?_))); (case side2 => exact HC203.out); rintro e w60 ⟨rfl, hb⟩; refine ⟨_, rfl, ?_⟩; have n0_ := Aside0.mk (Kd.R_below (by (with_reducible repeat (first | apply Kd.R_alloc | apply Kd.R_drewN | apply Kd.R_drew)); exact HO_195000.out) hb); have n1_ := Aside0.mk (Kd.R_below (by (with_reducible repeat (first | apply Kd.R_alloc | apply Kd.R_drewN | apply Kd.R_drew)); exact HO_195001.out) hb); have n2_ := Aside0.mk (blk_below (g := gb189) (o := .cells #[.slice none 0 0, .slice none 0 0, .int .i64 x190002_4, .int .i64 x190003_4] 30 (0, 0)) (by (with_reducible repeat (first | refine blk_drewN ?_ _ | refine blk_drew ?_ | refine blk_alloc ?_ _)); exact BK189.out) hb); have n3_ := Aside0.mk (blk_below (g := gb191) (o := .cells #[.slice AR xr4.length CR, .bool xq4] 53 (0, 0)) (by (with_reducible repeat (first | refine blk_drewN ?_ _ | refine blk_drew ?_ | refine blk_alloc ?_ _)); exact BK191.out) hb); have n4_ := Aside0.mk (blk_below (g := gb194) (o := .cells #[u195000, u195001, .int .i64 t193, .int .i64 t192] 30 (0, 0)) (by (with_reducible repeat (first | refine blk_drewN ?_ _ | refine blk_drew ?_ | refine blk_alloc ?_ _)); exact BK194.out) hb); have n5_ := Aside0.mk (below_step (by repeat (first | (with_reducible first | exact HB.out | apply below_alloc | apply pw_below_drewN | apply below_drew1 | refine below_set ?_ GE189.out | refine below_set ?_ GE191.out | refine below_set ?_ GE194.out) | exact HB.out)) hb); clear HO_195000; clear HO_195001; clear BK189; clear BK191; clear BK194; clear HB; have HO_195000 := n0_; have HO_195001 := n1_; have BK189 := n2_; have BK191 := n3_; have BK194 := n4_; have HB := n5_; clear n0_ n1_ n2_ n3_ n4_ n5_; (try clear hb); (try clear hb2); (try clear hk); (try clear hi)) | ((with_reducible refine gate_dst (N := 10) rfl ?_); refine box_event ?hg (N := 10) ?hd (cs := #[.int .i64 0, .int .i64 0, .int .i64 0, .int .i64 0, .int .i64 0, .int .i64 0]) (t := 26) ?hr ?_; (case hd => rfl); (case hg => rfl); (case hr => first | (go_simp; done) | (go_simp; rfl)); intro gb211 hg w61 hbox hb; have n0_ := Aside0.mk (Kd.R_below (Kd.R_elderB (by (with_reducible repeat (first | apply Kd.R_alloc | apply Kd.R_drewN | apply Kd.R_drew)); exact HO_195000.out) gb211 (Nat.le_of_eq hg.symm)) hb); have n1_ := Aside0.mk (Kd.R_below (by (with_reducible repeat (first | apply Kd.R_alloc | apply Kd.R_drewN | apply Kd.R_drew)); exact HO_195001.out) hb); have n2_ := Aside0.mk (blk_below (g := gb189) (o := .cells #[.slice none 0 0, .slice none 0 0, .int .i64 x190002_4, .int .i64 x190003_4] 30 (0, 0)) (by (with_reducible repeat (first | refine blk_drewN ?_ _ | refine blk_drew ?_ | refine blk_alloc ?_ _)); exact BK189.out) hb); have n3_ := Aside0.mk (blk_below (g := gb191) (o := .cells #[.slice AR xr4.length CR, .bool xq4] 53 (0, 0)) (by (with_reducible repeat (first | refine blk_drewN ?_ _ | refine blk_drew ?_ | refine blk_alloc ?_ _)); exact BK191.out) hb); have n4_ := Aside0.mk (blk_below (g := gb194) (o := .cells #[u195000, u195001, .int .i64 t193, .int .i64 t192] 30 (0, 0)) (by (with_reducible repeat (first | refine blk_drewN ?_ _ | refine blk_drew ?_ | refine blk_alloc ?_ _)); exact BK194.out) hb); have n5_ := Aside0.mk (below_step (by repeat (first | (with_reducible first | exact HB.out | apply below_alloc | apply pw_below_drewN | apply below_drew1 | refine below_set ?_ GE189.out | refine below_set ?_ GE191.out | refine below_set ?_ GE194.out) | exact HB.out)) hb); have n6_ := Aside0.mk (hbox); have n7_ := Aside0.mk ((by rw [hg]; exact (below_size (by repeat (first | (with_reducible first | exact HB.out | apply below_alloc | apply pw_below_drewN | apply below_drew1 | refine below_set ?_ GE189.out | refine below_set ?_ GE191.out | refine below_set ?_ GE194.out) | exact HB.out))) : w.heap.size ≤ gb211)); have n8_ := Aside0.mk ((by rw [hg]; exact (below_size (by repeat (first | (with_reducible first | exact HB.out | apply below_alloc | apply pw_below_drewN | apply below_drew1 | refine below_set ?_ GE189.out | refine below_set ?_ GE191.out | refine below_set ?_ GE194.out) | exact HB.out))) : w.heap.size ≤ gb211)); have n9_ := Aside0.mk ((by rw [hg]; exact Nat.ne_of_lt (blk_lt (g := gb189) (o := .cells #[.slice none 0 0, .slice none 0 0, .int .i64 x190002_4, .int .i64 x190003_4] 30 (0, 0)) (by (with_reducible repeat (first | refine blk_drewN ?_ _ | refine blk_drew ?_ | refine blk_alloc ?_ _)); exact BK189.out)) : gb189 ≠ gb211)); have n10_ := Aside0.mk ((by rw [hg]; exact Nat.ne_of_gt (blk_lt (g := gb189) (o := .cells #[.slice none 0 0, .slice none 0 0, .int .i64 x190002_4, .int .i64 x190003_4] 30 (0, 0)) (by (with_reducible repeat (first | refine blk_drewN ?_ _ | refine blk_drew ?_ | refine blk_alloc ?_ _)); exact BK189.out)) : gb211 ≠ gb189)); have n11_ := Aside0.mk ((by rw [hg]; exact Nat.ne_of_lt (blk_lt (g := gb191) (o := .cells #[.slice AR xr4.length CR, .bool xq4] 53 (0, 0)) (by (with_reducible repeat (first | refine blk_drewN ?_ _ | refine blk_drew ?_ | refine blk_alloc ?_ _)); exact BK191.out)) : gb191 ≠ gb211)); have n12_ := Aside0.mk ((by rw [hg]; exact Nat.ne_of_gt (blk_lt (g := gb191) (o := .cells #[.slice AR xr4.length CR, .bool xq4] 53 (0, 0)) (by (with_reducible repeat (first | refine blk_drewN ?_ _ | refine blk_drew ?_ | refine blk_alloc ?_ _)); exact BK191.out)) : gb211 ≠ gb191)); have n13_ := Aside0.mk ((by rw [hg]; exact Nat.ne_of_lt (blk_lt (g := gb194) (o := .cells #[u195000, u195001, .int .i64 t193, .int .i64 t192] 30 (0, 0)) (by (with_reducible repeat (first | refine blk_drewN ?_ _ | refine blk_drew ?_ | refine blk_alloc ?_ _)); exact BK194.out)) : gb194 ≠ gb211)); have n14_ := Aside0.mk ((by rw [hg]; exact Nat.ne_of_gt (blk_lt (g := gb194) (o := .cells #[u195000, u195001, .int .i64 t193, .int .i64 t192] 30 (0, 0)) (by (with_reducible repeat (first | refine blk_drewN ?_ _ | refine blk_drew ?_ | refine blk_alloc ?_ _)); exact BK194.out)) : gb211 ≠ gb194)); clear HO_195000; clear HO_195001; clear BK189; clear BK191; clear BK194; clear HB; have HO_195000 := n0_; have HO_195001 := n1_; have BK189 := n2_; have BK191 := n3_; have BK194 := n4_; have HB := n5_; have BK211 := n6_; have GW211 := n7_; have GE211 := n8_; have NB189_211 := n9_; have NB211_189 := n10_; have NB191_211 := n11_; have NB211_191 := n12_; have NB194_211 := n13_; have NB211_194 := n14_; clear n0_ n1_ n2_ n3_ n4_ n5_ n6_ n7_ n8_ n9_ n10_ n11_ n12_ n13_ n14_; clear hb hbox hg; have hnb62 := NB211_189.out; have hnc62 := NB189_211.out; have hnb63 := NB211_191.out; have hnc63 := NB191_211.out; have hnb64 := NB211_194.out; have hnc64 := NB194_211.out; have hcz65_0 : w61.cell? ⟨gb211, 0, none⟩ = some (.int .i64 0) := (blk_cell BK211.out 0).trans rfl; have hcz65_1 : w61.cell? ⟨gb211, 1, none⟩ = some (.int .i64 0) := (blk_cell BK211.out 1).trans rfl; have hcz65_2 : w61.cell? ⟨gb211, 2, none⟩ = some (.int .i64 0) := (blk_cell BK211.out 2).trans rfl; have hcz65_3 : w61.cell? ⟨gb211, 3, none⟩ = some (.int .i64 0) := (blk_cell BK211.out 3).trans rfl; have hcz65_4 : w61.cell? ⟨gb211, 4, none⟩ = some (.int .i64 0) := (blk_cell BK211.out 4).trans rfl; have hcz65_5 : w61.cell? ⟨gb211, 5, none⟩ = some (.int .i64 0) := (blk_cell BK211.out 5).trans rfl; have hfz65_0 := blk_frozen BK211.out 0; have hfz65_1 := blk_frozen BK211.out 1; have hfz65_2 := blk_frozen BK211.out 2; have hfz65_3 := blk_frozen BK211.out 3; have hfz65_4 := blk_frozen BK211.out 4; have hfz65_5 := blk_frozen BK211.out 5; have hnb66 := NB194_189.out; have hnc66 := NB189_194.out; have hcz67_0 : w61.cell? ⟨gb194, 0, none⟩ = some (u195000) := (blk_cell BK194.out 0).trans rfl; have hcz67_1 : w61.cell? ⟨gb194, 1, none⟩ = some (u195001) := (blk_cell BK194.out 1).trans rfl; have hcz67_2 : w61.cell? ⟨gb194, 2, none⟩ = some (.int .i64 t193) := (blk_cell BK194.out 2).trans rfl; have hcz67_3 : w61.cell? ⟨gb194, 3, none⟩ = some (.int .i64 t192) := (blk_cell BK194.out 3).trans rfl; have hfz67_0 := blk_frozen BK194.out 0; have hfz67_1 := blk_frozen BK194.out 1; have hfz67_2 := blk_frozen BK194.out 2; have hfz67_3 := blk_frozen BK194.out 3) | ((with_reducible refine gate_builtin (b := .append) (xs := #[.tmp 92, .tmp 94]) rfl ?_); at_builtin; refine Kd.R_append k26 (w0 := w) w.heap.size rfl (.tmp 92) (.tmp 94) 27 26 (.agg #[(.int .i64 0), (.int .i64 0), (.int .i64 0), (.int .i64 0), (.int .i64 0), (.int .i64 0)]) 48 rfl Try.underlying27 info26 rfl (by decide) (by omega) u195000 x195000_4 (⟨t204, t205, t206, t207, t208, t209⟩ : S26) [.int .i64 t204, .int .i64 t205, .int .i64 t206, .int .i64 t207, .int .i64 t208, .int .i64 t209] (fun k_ => k_ ≠ gb211) (fun _ => False) rfl (by first | (go_simp; done) | (go_simp; rfl)) ?aP (fun _ hk => hk.elim) ?aF ?aO ?aB ?aS ?aL ?_; (case aP => exact k26_mkM _ _ _ (⟨t204, t205, t206, t207, t208, t209⟩ : S26)); (case aB => exact (by repeat (first | (with_reducible first | exact HB.out | apply below_alloc | apply pw_below_drewN | apply below_drew1 | refine below_set ?_ GE189.out | refine below_set ?_ GE191.out | refine below_set ?_ GE194.out | refine below_set ?_ GE211.out) | exact HB.out))); (case aF => exact (fun k_ hk => Kd.freshB (g := gb211) (o := .cells #[.int .i64 t204, .int .i64 t205, .int .i64 t206, .int .i64 t207, .int .i64 t208, .int .i64 t209] 26 (0, 0)) (by (with_reducible repeat (first | refine blk_drewN ?_ _ | refine blk_drew ?_ | refine blk_alloc ?_ _)); refine blk_put (cs := #[.int .i64 t204, .int .i64 t205, .int .i64 t206, .int .i64 t207, .int .i64 t208, .int .i64 0]) ?_ 5 _ rfl; (with_reducible repeat (first | refine blk_drewN ?_ _ | refine blk_drew ?_ | refine blk_alloc ?_ _)); refine blk_put (cs := #[.int .i64 t204, .int .i64 t205, .int .i64 t206, .int .i64 t207, .int .i64 0, .int .i64 0]) ?_ 4 _ rfl; (with_reducible repeat (first | refine blk_drewN ?_ _ | refine blk_drew ?_ | refine blk_alloc ?_ _)); refine blk_put (cs := #[.int .i64 t204, .int .i64 t205, .int .i64 t206, .int .i64 0, .int .i64 0, .int .i64 0]) ?_ 3 _ rfl; (with_reducible repeat (first | refine blk_drewN ?_ _ | refine blk_drew ?_ | refine blk_alloc ?_ _)); refine blk_put (cs := #[.int .i64 t204, .int .i64 t205, .int .i64 0, .int .i64 0, .int .i64 0, .int .i64 0]) ?_ 2 _ rfl; (with_reducible repeat (first | refine blk_drewN ?_ _ | refine blk_drew ?_ | refine blk_alloc ?_ _)); refine blk_put (cs := #[.int .i64 t204, .int .i64 0, .int .i64 0, .int .i64 0, .int .i64 0, .int .i64 0]) ?_ 1 _ rfl; (with_reducible repeat (first | refine blk_drewN ?_ _ | refine blk_drew ?_ | refine blk_alloc ?_ _)); refine blk_put (cs := #[.int .i64 0, .int .i64 0, .int .i64 0, .int .i64 0, .int .i64 0, .int .i64 0]) ?_ 0 _ rfl; (with_reducible repeat (first | refine blk_drewN ?_ _ | refine blk_drew ?_ | refine blk_alloc ?_ _)); exact BK211.out) k_ hk)); (case aO => exact (by (with_reducible repeat (first | apply Kd.R_alloc | apply Kd.R_drewN | apply Kd.R_drew)); exact Kd.R_mono (Kd.R_far (p := ⟨gb211, 5, none⟩) (Kd.R_far (p := ⟨gb211, 4, none⟩) (Kd.R_far (p := ⟨gb211, 3, none⟩) (Kd.R_far (p := ⟨gb211, 2, none⟩) (Kd.R_far (p := ⟨gb211, 1, none⟩) (Kd.R_far (p := ⟨gb211, 0, none⟩) (Kd.R_mono HO_195000.out (fun k_ hk => (⟨hk, hk.2⟩ : _ ∧ k_ ≠ gb211))) (fun _ hk => hk.2) (.int .i64 t204)) (fun _ hk => hk.2) (.int .i64 t205)) (fun _ hk => hk.2) (.int .i64 t206)) (fun _ hk => hk.2) (.int .i64 t207)) (fun _ hk => hk.2) (.int .i64 t208)) (fun _ hk => hk.2) (.int .i64 t209)) (fun _ hk => hk.1.2))); (case aS => exact (below_size (by repeat (first | (with_reducible first | exact HB.out | apply below_alloc | apply pw_below_drewN | apply below_drew1 | refine below_set ?_ GE189.out | refine below_set ?_ GE191.out | refine below_set ?_ GE194.out | refine below_set ?_ GE211.out) | exact HB.out)))); (case aL => have := LMc55.out; omega); intro v213 w68 ho hb hg hat; rw [← Ny212.out] at ho; have n0_ := Aside0.mk (Kd.R_over' (by (with_reducible repeat (first | apply Kd.R_alloc | apply Kd.R_drewN | apply Kd.R_drew)); exact (Kd.R_mono (Kd.R_far (p := ⟨gb211, 5, none⟩) (Kd.R_far (p := ⟨gb211, 4, none⟩) (Kd.R_far (p := ⟨gb211, 3, none⟩) (Kd.R_far (p := ⟨gb211, 2, none⟩) (Kd.R_far (p := ⟨gb211, 1, none⟩) (Kd.R_far (p := ⟨gb211, 0, none⟩) (Kd.R_types HO_195001.out BK211.out (by decide)) (fun _ hk => hk.2) (.int .i64 t204)) (fun _ hk => hk.2) (.int .i64 t205)) (fun _ hk => hk.2) (.int .i64 t206)) (fun _ hk => hk.2) (.int .i64 t207)) (fun _ hk => hk.2) (.int .i64 t208)) (fun _ hk => hk.2) (.int .i64 t209)) (fun _ h_ => h_.1))) (Kd.R_typed (by (with_reducible repeat (first | apply Kd.R_alloc | apply Kd.R_drewN | apply Kd.R_drew)); exact (Kd.R_mono (Kd.R_far (p := ⟨gb211, 5, none⟩) (Kd.R_far (p := ⟨gb211, 4, none⟩) (Kd.R_far (p := ⟨gb211, 3, none⟩) (Kd.R_far (p := ⟨gb211, 2, none⟩) (Kd.R_far (p := ⟨gb211, 1, none⟩) (Kd.R_far (p := ⟨gb211, 0, none⟩) (Kd.R_mono HO_195000.out (fun k_ hk => (⟨hk, hk.2⟩ : _ ∧ k_ ≠ gb211))) (fun _ hk => hk.2) (.int .i64 t204)) (fun _ hk => hk.2) (.int .i64 t205)) (fun _ hk => hk.2) (.int .i64 t206)) (fun _ hk => hk.2) (.int .i64 t207)) (fun _ hk => hk.2) (.int .i64 t208)) (fun _ hk => hk.2) (.int .i64 t209)) (fun _ h_ => h_.1)))) (by decide) hg); have n1_ := Aside0.mk (blk_grown (g := gb189) (o := .cells #[.slice none 0 0, .slice none 0 0, .int .i64 x190002_4, .int .i64 x190003_4] 30 (0, 0)) (by (with_reducible repeat (first | refine blk_drewN ?_ _ | refine blk_drew ?_ | refine blk_alloc ?_ _)); refine blk_far ?_ NB189_211.out _; (with_reducible repeat (first | refine blk_drewN ?_ _ | refine blk_drew ?_ | refine blk_alloc ?_ _)); refine blk_far ?_ NB189_211.out _; (with_reducible repeat (first | refine blk_drewN ?_ _ | refine blk_drew ?_ | refine blk_alloc ?_ _)); refine blk_far ?_ NB189_211.out _; (with_reducible repeat (first | refine blk_drewN ?_ _ | refine blk_drew ?_ | refine blk_alloc ?_ _)); refine blk_far ?_ NB189_211.out _; (with_reducible repeat (first | refine blk_drewN ?_ _ | refine blk_drew ?_ | refine blk_alloc ?_ _)); refine blk_far ?_ NB189_211.out _; (with_reducible repeat (first | refine blk_drewN ?_ _ | refine blk_drew ?_ | refine blk_alloc ?_ _)); refine blk_far ?_ NB189_211.out _; (with_reducible repeat (first | refine blk_drewN ?_ _ | refine blk_drew ?_ | refine blk_alloc ?_ _)); exact BK189.out) hg (Kd.R_ne HO_195000.out BK189.out (by decide))); have n2_ := Aside0.mk (blk_grown (g := gb191) (o := .cells #[.slice AR xr4.length CR, .bool xq4] 53 (0, 0)) (by (with_reducible repeat (first | refine blk_drewN ?_ _ | refine blk_drew ?_ | refine blk_alloc ?_ _)); refine blk_far ?_ NB191_211.out _; (with_reducible repeat (first | refine blk_drewN ?_ _ | refine blk_drew ?_ | refine blk_alloc ?_ _)); refine blk_far ?_ NB191_211.out _; (with_reducible repeat (first | refine blk_drewN ?_ _ | refine blk_drew ?_ | refine blk_alloc ?_ _)); refine blk_far ?_ NB191_211.out _; (with_reducible repeat (first | refine blk_drewN ?_ _ | refine blk_drew ?_ | refine blk_alloc ?_ _)); refine blk_far ?_ NB191_211.out _; (with_reducible repeat (first | refine blk_drewN ?_ _ | refine blk_drew ?_ | refine blk_alloc ?_ _)); refine blk_far ?_ NB191_211.out _; (with_reducible repeat (first | refine blk_drewN ?_ _ | refine blk_drew ?_ | refine blk_alloc ?_ _)); refine blk_far ?_ NB191_211.out _; (with_reducible repeat (first | refine blk_drewN ?_ _ | refine blk_drew ?_ | refine blk_alloc ?_ _)); exact BK191.out) hg (Kd.R_ne HO_195000.out BK191.out (by decide))); have n3_ := Aside0.mk (blk_grown (g := gb194) (o := .cells #[u195000, u195001, .int .i64 t193, .int .i64 t192] 30 (0, 0)) (by (with_reducible repeat (first | refine blk_drewN ?_ _ | refine blk_drew ?_ | refine blk_alloc ?_ _)); refine blk_far ?_ NB194_211.out _; (with_reducible repeat (first | refine blk_drewN ?_ _ | refine blk_drew ?_ | refine blk_alloc ?_ _)); refine blk_far ?_ NB194_211.out _; (with_reducible repeat (first | refine blk_drewN ?_ _ | refine blk_drew ?_ | refine blk_alloc ?_ _)); refine blk_far ?_ NB194_211.out _; (with_reducible repeat (first | refine blk_drewN ?_ _ | refine blk_drew ?_ | refine blk_alloc ?_ _)); refine blk_far ?_ NB194_211.out _; (with_reducible repeat (first | refine blk_drewN ?_ _ | refine blk_drew ?_ | refine blk_alloc ?_ _)); refine blk_far ?_ NB194_211.out _; (with_reducible repeat (first | refine blk_drewN ?_ _ | refine blk_drew ?_ | refine blk_alloc ?_ _)); refine blk_far ?_ NB194_211.out _; (with_reducible repeat (first | refine blk_drewN ?_ _ | refine blk_drew ?_ | refine blk_alloc ?_ _)); exact BK194.out) hg (Kd.R_ne HO_195000.out BK194.out (by decide))); have n4_ := Aside0.mk (blk_grown (g := gb211) (o := .cells #[.int .i64 t204, .int .i64 t205, .int .i64 t206, .int .i64 t207, .int .i64 t208, .int .i64 t209] 26 (0, 0)) (by (with_reducible repeat (first | refine blk_drewN ?_ _ | refine blk_drew ?_ | refine blk_alloc ?_ _)); refine blk_put (cs := #[.int .i64 t204, .int .i64 t205, .int .i64 t206, .int .i64 t207, .int .i64 t208, .int .i64 0]) ?_ 5 _ rfl; (with_reducible repeat (first | refine blk_drewN ?_ _ | refine blk_drew ?_ | refine blk_alloc ?_ _)); refine blk_put (cs := #[.int .i64 t204, .int .i64 t205, .int .i64 t206, .int .i64 t207, .int .i64 0, .int .i64 0]) ?_ 4 _ rfl; (with_reducible repeat (first | refine blk_drewN ?_ _ | refine blk_drew ?_ | refine blk_alloc ?_ _)); refine blk_put (cs := #[.int .i64 t204, .int .i64 t205, .int .i64 t206, .int .i64 0, .int .i64 0, .int .i64 0]) ?_ 3 _ rfl; (with_reducible repeat (first | refine blk_drewN ?_ _ | refine blk_drew ?_ | refine blk_alloc ?_ _)); refine blk_put (cs := #[.int .i64 t204, .int .i64 t205, .int .i64 0, .int .i64 0, .int .i64 0, .int .i64 0]) ?_ 2 _ rfl; (with_reducible repeat (first | refine blk_drewN ?_ _ | refine blk_drew ?_ | refine blk_alloc ?_ _)); refine blk_put (cs := #[.int .i64 t204, .int .i64 0, .int .i64 0, .int .i64 0, .int .i64 0, .int .i64 0]) ?_ 1 _ rfl; (with_reducible repeat (first | refine blk_drewN ?_ _ | refine blk_drew ?_ | refine blk_alloc ?_ _)); refine blk_put (cs := #[.int .i64 0, .int .i64 0, .int .i64 0, .int .i64 0, .int .i64 0, .int .i64 0]) ?_ 0 _ rfl; (with_reducible repeat (first | refine blk_drewN ?_ _ | refine blk_drew ?_ | refine blk_alloc ?_ _)); exact BK211.out) hg (Kd.R_away HO_195000.out (fun _ hk => hk.2))); have n5_ := Aside0.mk (hb); have n6_ := Aside0.mk (ho); clear HO_195001; clear BK189; clear BK191; clear BK194; clear BK211; clear HB; clear HO_195000; have HO_195001 := n0_; have BK189 := n1_; have BK191 := n2_; have BK194 := n3_; have BK211 := n4_; have HB := n5_; have HO214 := n6_; clear n0_ n1_ n2_ n3_ n4_ n5_ n6_; clear ho hb hg hat; obtain ⟨Ao69, co69, eo69⟩ := Kd.R_slice HO214.out; subst eo69; have hcz70_0 : w68.cell? ⟨gb194, 0, none⟩ = some (u195000) := (blk_cell BK194.out 0).trans rfl; have hcz70_1 : w68.cell? ⟨gb194, 1, none⟩ = some (u195001) := (blk_cell BK194.out 1).trans rfl; have hcz70_2 : w68.cell? ⟨gb194, 2, none⟩ = some (.int .i64 t193) := (blk_cell BK194.out 2).trans rfl; have hcz70_3 : w68.cell? ⟨gb194, 3, none⟩ = some (.int .i64 t192) := (blk_cell BK194.out 3).trans rfl; have hfz70_0 := blk_frozen BK194.out 0; have hfz70_1 := blk_frozen BK194.out 1; have hfz70_2 := blk_frozen BK194.out 2; have hfz70_3 := blk_frozen BK194.out 3))
                                    go_roundg k4
                                    case measure => have := HJ1.out; have := HK2.out; have := HJ35.out; have := HK4.out; omega
                                    case rel => exact ⟨(wrap64 (x70_4 + 1)), (x190002_4), (x190003_4), (y212), (.slice Ao69 y212.length co69), (by first | rfl | (simp; done) | (simp [*]; done)), H', ⟨by have := HJ1.out; have := HK2.out; have := HJ35.out; have := HK4.out; omega⟩, ⟨by (with_reducible repeat (first | apply Kd.R_alloc | apply Kd.R_drewN | apply Kd.R_drew)); exact Kd.R_mono (Kd.R_far (p := ⟨gb194, 0, none⟩) (Kd.R_types HO214.out BK194.out (by decide)) (fun _ hk => hk.2) (.slice Ao69 y212.length co69)) (fun _ hk => trivial)⟩, ⟨by (with_reducible repeat (first | apply Kd.R_alloc | apply Kd.R_drewN | apply Kd.R_drew)); exact Kd.R_mono (Kd.R_far (p := ⟨gb194, 0, none⟩) (Kd.R_types HO_195001.out BK194.out (by decide)) (fun _ hk => hk.2) (.slice Ao69 y212.length co69)) (fun _ hk => trivial)⟩, ⟨by (with_reducible repeat (first | refine blk_drewN ?_ _ | refine blk_drew ?_ | refine blk_alloc ?_ _)); refine blk_far ?_ NB189_194.out _; (with_reducible repeat (first | refine blk_drewN ?_ _ | refine blk_drew ?_ | refine blk_alloc ?_ _)); exact BK189.out⟩, ⟨by (with_reducible repeat (first | refine blk_drewN ?_ _ | refine blk_drew ?_ | refine blk_alloc ?_ _)); refine blk_far ?_ NB191_194.out _; (with_reducible repeat (first | refine blk_drewN ?_ _ | refine blk_drew ?_ | refine blk_alloc ?_ _)); exact BK191.out⟩, ⟨by (with_reducible repeat (first | refine blk_drewN ?_ _ | refine blk_drew ?_ | refine blk_alloc ?_ _)); refine blk_put (cs := #[u195000, u195001, .int .i64 t193, .int .i64 t192]) ?_ 0 _ rfl; (with_reducible repeat (first | refine blk_drewN ?_ _ | refine blk_drew ?_ | refine blk_alloc ?_ _)); exact BK194.out⟩, ⟨by repeat (first | (with_reducible first | exact HB.out | apply below_alloc | apply pw_below_drewN | apply below_drew1 | refine below_set ?_ GE189.out | refine below_set ?_ GE191.out | refine below_set ?_ GE194.out | refine below_set ?_ GE211.out) | exact HB.out)⟩⟩
                                  · rw [if_neg c55] at H
                                    exact absurd H (by simp)
                                · rw [if_neg c54] at H
                                  have c54b0 : (t210 == 0) = false := beq_eq_false_iff_ne.mpr c54
                                  have c54b1 : (t210 != 0) = true := bne_iff_ne.mpr c54
                                  simp only [Option.some.injEq, Prod.mk.injEq] at H
                                  obtain ⟨rfl, rfl, rfl, rfl, rfl⟩ := H
                                  have hnb71 := NB191_189.out
                                  have hnc71 := NB189_191.out
                                  have hnb72 := NB191_194.out
                                  have hnc72 := NB194_191.out
                                  have hcz73_0 : wr.cell? ⟨gb191, 0, none⟩ = some (.slice AR xr4.length CR) := (blk_cell BK191.out 0).trans rfl
                                  have hcz73_1 : wr.cell? ⟨gb191, 1, none⟩ = some (.bool xq4) := (blk_cell BK191.out 1).trans rfl
                                  have hfz73_0 := blk_frozen BK191.out 0
                                  have hfz73_1 := blk_frozen BK191.out 1
                                  obtain ⟨i074, hi074, _, hsz74, _⟩ := info_parts info5
                                  obtain ⟨A74, hcut74, hA74, hC74⟩ := print_mid_of (P := Try.prog) (Value.int .u8) 0 41 5 .i64 .i64 Try.underlying41 hi074 hsz74 AR CR xr4 (ji49) (wrap64 ((wrap64 (x70_4 + 1)) * 13)) (of_decide_eq_true (by first | (with_reducible assumption) | assumption)) (by first | omega | exact of_decide_eq_true (by first | (with_reducible assumption) | assumption)) (of_decide_eq_true (by first | (with_reducible assumption) | assumption)) HCR.out
                                  have HR203 := Aside0.mk (Kd.C_of_reads (h1 := fun _ => rfl) (hA74 _ (Kd.reads_of_C HRR.out)))
                                  have HC203 := Aside0.mk hC74
                                  clear hA74 hC74 hi074 hsz74
                                  go_wp2_with (first | ((with_reducible refine gate_callee (f := 20) rfl ?_); refine goesL_ (some 84) rfl rfl Try.func20 (by kernel_rfl) rfl #[.slice A74 ((xr4.take ((wrap64 ((wrap64 (x70_4 + 1)) * 13)) : Int).toNat).drop ((ji49) : Int).toNat).length (CR - (ji49).toNat)] rfl (by (try simp only [List.map_toArray, List.map_cons, List.map_nil]); first | done | (rw [show ((xr4.take ((wrap64 ((wrap64 (x70_4 + 1)) * 13)) : Int).toNat).drop ((ji49) : Int).toNat).length = ((wrap64 ((wrap64 (x70_4 + 1)) * 13)).toNat - (ji49).toNat) from (by rw [List.length_drop, List.length_take]; have h_ : ((wrap64 ((wrap64 (x70_4 + 1)) * 13)) : Int) ≤ (xr4.length : Int) := of_decide_eq_true (by first | (with_reducible assumption) | assumption); omega)] <;> rfl) | (simp only [hji49]; rfl) | rfl | (simp only [List.length_drop, List.length_take]; rfl)) ?_; (with_reducible refine (code_Decode.calls k4 _ _ ((xr4.take ((wrap64 ((wrap64 (x70_4 + 1)) * 13)) : Int).toNat).drop ((ji49) : Int).toNat) t204 t205 t206 t207 t208 t209 t210 _ ?side1 ?side2 A53.out).mono ?_); (case side1 => repeat (first | exact (Kd.C_below HR203.out HB.out) | (with_reducible refine Kd.C_alloc ?_ _) | (with_reducible refine Kd.C_drewN ?_ _) | (with_reducible refine Kd.C_drew ?_))); (case side2 => exact HC203.out); rintro e w75 ⟨rfl, hb⟩; refine ⟨_, rfl, ?_⟩; have n0_ := Aside0.mk (Kd.R_below (by (with_reducible repeat (first | apply Kd.R_alloc | apply Kd.R_drewN | apply Kd.R_drew)); exact HO_195000.out) hb); have n1_ := Aside0.mk (Kd.R_below (by (with_reducible repeat (first | apply Kd.R_alloc | apply Kd.R_drewN | apply Kd.R_drew)); exact HO_195001.out) hb); have n2_ := Aside0.mk (blk_below (g := gb189) (o := .cells #[.slice none 0 0, .slice none 0 0, .int .i64 x190002_4, .int .i64 x190003_4] 30 (0, 0)) (by (with_reducible repeat (first | refine blk_drewN ?_ _ | refine blk_drew ?_ | refine blk_alloc ?_ _)); exact BK189.out) hb); have n3_ := Aside0.mk (blk_below (g := gb191) (o := .cells #[.slice AR xr4.length CR, .bool xq4] 53 (0, 0)) (by (with_reducible repeat (first | refine blk_drewN ?_ _ | refine blk_drew ?_ | refine blk_alloc ?_ _)); exact BK191.out) hb); have n4_ := Aside0.mk (blk_below (g := gb194) (o := .cells #[u195000, u195001, .int .i64 t193, .int .i64 t192] 30 (0, 0)) (by (with_reducible repeat (first | refine blk_drewN ?_ _ | refine blk_drew ?_ | refine blk_alloc ?_ _)); exact BK194.out) hb); have n5_ := Aside0.mk (below_step (by repeat (first | (with_reducible first | exact HB.out | apply below_alloc | apply pw_below_drewN | apply below_drew1 | refine below_set ?_ GE189.out | refine below_set ?_ GE191.out | refine below_set ?_ GE194.out) | exact HB.out)) hb); clear HO_195000; clear HO_195001; clear BK189; clear BK191; clear BK194; clear HB; have HO_195000 := n0_; have HO_195001 := n1_; have BK189 := n2_; have BK191 := n3_; have BK194 := n4_; have HB := n5_; clear n0_ n1_ n2_ n3_ n4_ n5_; (try clear hb); (try clear hb2); (try clear hk); (try clear hi)) | ((with_reducible refine gate_dst (N := 10) rfl ?_); refine box_event ?hg (N := 10) ?hd (cs := #[.int .i64 0, .int .i64 0, .int .i64 0, .int .i64 0, .int .i64 0, .int .i64 0]) (t := 26) ?hr ?_; (case hd => rfl); (case hg => rfl); (case hr => first | (go_simp; done) | (go_simp; rfl)); intro gb211 hg w76 hbox hb; have n0_ := Aside0.mk (Kd.R_below (Kd.R_elderB (by (with_reducible repeat (first | apply Kd.R_alloc | apply Kd.R_drewN | apply Kd.R_drew)); exact HO_195000.out) gb211 (Nat.le_of_eq hg.symm)) hb); have n1_ := Aside0.mk (Kd.R_below (by (with_reducible repeat (first | apply Kd.R_alloc | apply Kd.R_drewN | apply Kd.R_drew)); exact HO_195001.out) hb); have n2_ := Aside0.mk (blk_below (g := gb189) (o := .cells #[.slice none 0 0, .slice none 0 0, .int .i64 x190002_4, .int .i64 x190003_4] 30 (0, 0)) (by (with_reducible repeat (first | refine blk_drewN ?_ _ | refine blk_drew ?_ | refine blk_alloc ?_ _)); exact BK189.out) hb); have n3_ := Aside0.mk (blk_below (g := gb191) (o := .cells #[.slice AR xr4.length CR, .bool xq4] 53 (0, 0)) (by (with_reducible repeat (first | refine blk_drewN ?_ _ | refine blk_drew ?_ | refine blk_alloc ?_ _)); exact BK191.out) hb); have n4_ := Aside0.mk (blk_below (g := gb194) (o := .cells #[u195000, u195001, .int .i64 t193, .int .i64 t192] 30 (0, 0)) (by (with_reducible repeat (first | refine blk_drewN ?_ _ | refine blk_drew ?_ | refine blk_alloc ?_ _)); exact BK194.out) hb); have n5_ := Aside0.mk (below_step (by repeat (first | (with_reducible first | exact HB.out | apply below_alloc | apply pw_below_drewN | apply below_drew1 | refine below_set ?_ GE189.out | refine below_set ?_ GE191.out | refine below_set ?_ GE194.out) | exact HB.out)) hb); have n6_ := Aside0.mk (hbox); have n7_ := Aside0.mk ((by rw [hg]; exact (below_size (by repeat (first | (with_reducible first | exact HB.out | apply below_alloc | apply pw_below_drewN | apply below_drew1 | refine below_set ?_ GE189.out | refine below_set ?_ GE191.out | refine below_set ?_ GE194.out) | exact HB.out))) : w.heap.size ≤ gb211)); have n8_ := Aside0.mk ((by rw [hg]; exact (below_size (by repeat (first | (with_reducible first | exact HB.out | apply below_alloc | apply pw_below_drewN | apply below_drew1 | refine below_set ?_ GE189.out | refine below_set ?_ GE191.out | refine below_set ?_ GE194.out) | exact HB.out))) : w.heap.size ≤ gb211)); have n9_ := Aside0.mk ((by rw [hg]; exact Nat.ne_of_lt (blk_lt (g := gb189) (o := .cells #[.slice none 0 0, .slice none 0 0, .int .i64 x190002_4, .int .i64 x190003_4] 30 (0, 0)) (by (with_reducible repeat (first | refine blk_drewN ?_ _ | refine blk_drew ?_ | refine blk_alloc ?_ _)); exact BK189.out)) : gb189 ≠ gb211)); have n10_ := Aside0.mk ((by rw [hg]; exact Nat.ne_of_gt (blk_lt (g := gb189) (o := .cells #[.slice none 0 0, .slice none 0 0, .int .i64 x190002_4, .int .i64 x190003_4] 30 (0, 0)) (by (with_reducible repeat (first | refine blk_drewN ?_ _ | refine blk_drew ?_ | refine blk_alloc ?_ _)); exact BK189.out)) : gb211 ≠ gb189)); have n11_ := Aside0.mk ((by rw [hg]; exact Nat.ne_of_lt (blk_lt (g := gb191) (o := .cells #[.slice AR xr4.length CR, .bool xq4] 53 (0, 0)) (by (with_reducible repeat (first | refine blk_drewN ?_ _ | refine blk_drew ?_ | refine blk_alloc ?_ _)); exact BK191.out)) : gb191 ≠ gb211)); have n12_ := Aside0.mk ((by rw [hg]; exact Nat.ne_of_gt (blk_lt (g := gb191) (o := .cells #[.slice AR xr4.length CR, .bool xq4] 53 (0, 0)) (by (with_reducible repeat (first | refine blk_drewN ?_ _ | refine blk_drew ?_ | refine blk_alloc ?_ _)); exact BK191.out)) : gb211 ≠ gb191)); have n13_ := Aside0.mk ((by rw [hg]; exact Nat.ne_of_lt (blk_lt (g := gb194) (o := .cells #[u195000, u195001, .int .i64 t193, .int .i64 t192] 30 (0, 0)) (by (with_reducible repeat (first | refine blk_drewN ?_ _ | refine blk_drew ?_ | refine blk_alloc ?_ _)); exact BK194.out)) : gb194 ≠ gb211)); have n14_ := Aside0.mk ((by rw [hg]; exact Nat.ne_of_gt (blk_lt (g := gb194) (o := .cells #[u195000, u195001, .int .i64 t193, .int .i64 t192] 30 (0, 0)) (by (with_reducible repeat (first | refine blk_drewN ?_ _ | refine blk_drew ?_ | refine blk_alloc ?_ _)); exact BK194.out)) : gb211 ≠ gb194)); clear HO_195000; clear HO_195001; clear BK189; clear BK191; clear BK194; clear HB; have HO_195000 := n0_; have HO_195001 := n1_; have BK189 := n2_; have BK191 := n3_; have BK194 := n4_; have HB := n5_; have BK211 := n6_; have GW211 := n7_; have GE211 := n8_; have NB189_211 := n9_; have NB211_189 := n10_; have NB191_211 := n11_; have NB211_191 := n12_; have NB194_211 := n13_; have NB211_194 := n14_; clear n0_ n1_ n2_ n3_ n4_ n5_ n6_ n7_ n8_ n9_ n10_ n11_ n12_ n13_ n14_; clear hb hbox hg; have hnb77 := NB211_189.out; have hnc77 := NB189_211.out; have hnb78 := NB211_191.out; have hnc78 := NB191_211.out; have hnb79 := NB211_194.out; have hnc79 := NB194_211.out; have hcz80_0 : w76.cell? ⟨gb211, 0, none⟩ = some (.int .i64 0) := (blk_cell BK211.out 0).trans rfl; have hcz80_1 : w76.cell? ⟨gb211, 1, none⟩ = some (.int .i64 0) := (blk_cell BK211.out 1).trans rfl; have hcz80_2 : w76.cell? ⟨gb211, 2, none⟩ = some (.int .i64 0) := (blk_cell BK211.out 2).trans rfl; have hcz80_3 : w76.cell? ⟨gb211, 3, none⟩ = some (.int .i64 0) := (blk_cell BK211.out 3).trans rfl; have hcz80_4 : w76.cell? ⟨gb211, 4, none⟩ = some (.int .i64 0) := (blk_cell BK211.out 4).trans rfl; have hcz80_5 : w76.cell? ⟨gb211, 5, none⟩ = some (.int .i64 0) := (blk_cell BK211.out 5).trans rfl; have hfz80_0 := blk_frozen BK211.out 0; have hfz80_1 := blk_frozen BK211.out 1; have hfz80_2 := blk_frozen BK211.out 2; have hfz80_3 := blk_frozen BK211.out 3; have hfz80_4 := blk_frozen BK211.out 4; have hfz80_5 := blk_frozen BK211.out 5; have hnb81 := NB189_194.out; have hnc81 := NB194_189.out; have hcz82_0 : w76.cell? ⟨gb189, 0, none⟩ = some (.slice none 0 0) := (blk_cell BK189.out 0).trans rfl; have hcz82_1 : w76.cell? ⟨gb189, 1, none⟩ = some (.slice none 0 0) := (blk_cell BK189.out 1).trans rfl; have hcz82_2 : w76.cell? ⟨gb189, 2, none⟩ = some (.int .i64 x190002_4) := (blk_cell BK189.out 2).trans rfl; have hcz82_3 : w76.cell? ⟨gb189, 3, none⟩ = some (.int .i64 x190003_4) := (blk_cell BK189.out 3).trans rfl; have hfz82_0 := blk_frozen BK189.out 0; have hfz82_1 := blk_frozen BK189.out 1; have hfz82_2 := blk_frozen BK189.out 2; have hfz82_3 := blk_frozen BK189.out 3))
                                  refine bodyPost_ret (results_ct rfl _ _ gb189 30 #[.slice none 0 0, .slice none 0 0, .int .i64 0, .int .i64 0] (0, 0) _ rfl (by (with_reducible repeat (first | refine blk_drewN ?_ _ | refine blk_drew ?_ | refine blk_alloc ?_ _)); refine blk_put (cs := #[.slice none 0 0, .slice none 0 0, .int .i64 0, .int .i64 x190003_4]) ?_ 3 _ rfl; (with_reducible repeat (first | refine blk_drewN ?_ _ | refine blk_drew ?_ | refine blk_alloc ?_ _)); refine blk_put (cs := #[.slice none 0 0, .slice none 0 0, .int .i64 x190002_4, .int .i64 x190003_4]) ?_ 2 _ rfl; (with_reducible repeat (first | refine blk_drewN ?_ _ | refine blk_drew ?_ | refine blk_alloc ?_ _)); refine blk_put (cs := #[.slice none 0 0, .slice none 0 0, .int .i64 x190002_4, .int .i64 x190003_4]) ?_ 1 _ rfl; (with_reducible repeat (first | refine blk_drewN ?_ _ | refine blk_drew ?_ | refine blk_alloc ?_ _)); refine blk_put (cs := #[.slice none 0 0, .slice none 0 0, .int .i64 x190002_4, .int .i64 x190003_4]) ?_ 0 _ rfl; (with_reducible repeat (first | refine blk_drewN ?_ _ | refine blk_drew ?_ | refine blk_alloc ?_ _)); refine blk_far ?_ NB189_211.out _; (with_reducible repeat (first | refine blk_drewN ?_ _ | refine blk_drew ?_ | refine blk_alloc ?_ _)); refine blk_far ?_ NB189_211.out _; (with_reducible repeat (first | refine blk_drewN ?_ _ | refine blk_drew ?_ | refine blk_alloc ?_ _)); refine blk_far ?_ NB189_211.out _; (with_reducible repeat (first | refine blk_drewN ?_ _ | refine blk_drew ?_ | refine blk_alloc ?_ _)); refine blk_far ?_ NB189_211.out _; (with_reducible repeat (first | refine blk_drewN ?_ _ | refine blk_drew ?_ | refine blk_alloc ?_ _)); refine blk_far ?_ NB189_211.out _; (with_reducible repeat (first | refine blk_drewN ?_ _ | refine blk_drew ?_ | refine blk_alloc ?_ _)); refine blk_far ?_ NB189_211.out _; (with_reducible repeat (first | refine blk_drewN ?_ _ | refine blk_drew ?_ | refine blk_alloc ?_ _)); exact BK189.out) Try.underlying30 rfl (by kernel_rfl)) rfl ?_
                                  exact ⟨_, _, by first | rfl | (simp [errW_none, errW_some] <;> rfl) | (simp only [← hji49]; first | rfl | (simp [errW_none, errW_some] <;> rfl)) | (simp [*, errW_none, errW_some] <;> rfl), by first | exact Kd.R_nil _ _ _ _ _ | exact Kd.N_nil _ _ _ _ _ | exact Kd.V_nil _ _ _ _ _ | exact Kd.Q_nil _ _ _ _ _ | exact Kd.S_nil _ _ _ _ _, by first | exact Kd.R_nil _ _ _ _ _ | exact Kd.N_nil _ _ _ _ _ | exact Kd.V_nil _ _ _ _ _ | exact Kd.Q_nil _ _ _ _ _ | exact Kd.S_nil _ _ _ _ _, by repeat (first | (with_reducible first | exact HB.out | apply below_alloc | apply pw_below_drewN | apply below_drew1 | refine below_set ?_ GE189.out | refine below_set ?_ GE191.out | refine below_set ?_ GE194.out | refine below_set ?_ GE211.out) | exact HB.out)⟩
                              · rw [if_neg c52] at H
                                exact absurd H (by simp)
                            · rw [if_neg c51] at H
                              exact absurd H (by simp)
                          · rw [if_neg c50] at H
                            exact absurd H (by simp)
                        · rw [if_neg c48] at H
                          have c48b0 : decide (x70_4 < t202) = false := decide_eq_false c48
                          clear c48
                          replace H := Option.bind_eq_some_iff.mp H
                          obtain ⟨t215, A830, H⟩ := H
                          replace H : (if t215 = true then (some (x195000_4, x195001_2, t193, t192, 0)) else (some (([] : List (S26)), ([] : List (S33)), 0, 0, 2))) = some (r1, r2, r3, r4, r5) := H
                          have A83 := Aside0.mk A830
                          clear A830
                          by_cases c84 : t215 = true
                          · subst c84
                            have H1 : (some (x195000_4, x195001_2, t193, t192, 0)) = some (r1, r2, r3, r4, r5) := by rw [if_pos rfl] at H; exact H
                            clear H
                            have H := H1
                            clear H1
                            simp only [Option.some.injEq, Prod.mk.injEq] at H
                            obtain ⟨rfl, rfl, rfl, rfl, rfl⟩ := H
                            have hnb85 := NB194_189.out
                            have hnc85 := NB189_194.out
                            have hnb86 := NB194_191.out
                            have hnc86 := NB191_194.out
                            have hcz87_0 : wr.cell? ⟨gb194, 0, none⟩ = some (u195000) := (blk_cell BK194.out 0).trans rfl
                            have hcz87_1 : wr.cell? ⟨gb194, 1, none⟩ = some (u195001) := (blk_cell BK194.out 1).trans rfl
                            have hcz87_2 : wr.cell? ⟨gb194, 2, none⟩ = some (.int .i64 t193) := (blk_cell BK194.out 2).trans rfl
                            have hcz87_3 : wr.cell? ⟨gb194, 3, none⟩ = some (.int .i64 t192) := (blk_cell BK194.out 3).trans rfl
                            have hfz87_0 := blk_frozen BK194.out 0
                            have hfz87_1 := blk_frozen BK194.out 1
                            have hfz87_2 := blk_frozen BK194.out 2
                            have hfz87_3 := blk_frozen BK194.out 3
                            obtain ⟨Ao88, co88, eo88⟩ := Kd.R_slice HO_195000.out
                            subst eo88
                            obtain ⟨Ao89, co89, eo89⟩ := Kd.R_slice HO_195001.out
                            subst eo89
                            go_wp2_with (first | ((with_reducible refine gate_callee (f := 8) rfl ?_); refine goesL_ (some 99) rfl rfl Try.func8 (by kernel_rfl) rfl #[.agg #[.slice Ao88 x195000_4.length co88, .slice Ao89 x195001_2.length co89, .int .i64 t193, .int .i64 t192]] rfl (by (try simp only [List.map_toArray, List.map_cons, List.map_nil]); first | done | rfl | (simp only [List.length_drop, List.length_take]; rfl)) ?_; (with_reducible refine (image_Image_Right.calls k4 _ _ x195000_4 _ _ x195001_2 t193 t192 true _ ?side1 ?side2 ?side3 ?side4 A83.out).mono ?_); (case side1 => repeat (first | exact (Kd.R_reads' HO_195000.out).2.2 | (with_reducible refine Kd.C_alloc ?_ _) | (with_reducible refine Kd.C_drewN ?_ _) | (with_reducible refine Kd.C_drew ?_))); (case side2 => exact (Kd.R_reads' HO_195000.out).2.1); (case side3 => repeat (first | exact (Kd.R_reads' HO_195001.out).2.2 | (with_reducible refine Kd.C_alloc ?_ _) | (with_reducible refine Kd.C_drewN ?_ _) | (with_reducible refine Kd.C_drew ?_))); (case side4 => exact (Kd.R_reads' HO_195001.out).2.1); rintro e w90 ⟨rfl, hb⟩; refine ⟨_, rfl, ?_⟩; have n0_ := Aside0.mk (Kd.R_below (by (with_reducible repeat (first | apply Kd.R_alloc | apply Kd.R_drewN | apply Kd.R_drew)); exact HO_195000.out) hb); have n1_ := Aside0.mk (Kd.R_below (by (with_reducible repeat (first | apply Kd.R_alloc | apply Kd.R_drewN | apply Kd.R_drew)); exact HO_195001.out) hb); have n2_ := Aside0.mk (blk_below (g := gb189) (o := .cells #[.slice none 0 0, .slice none 0 0, .int .i64 x190002_4, .int .i64 x190003_4] 30 (0, 0)) (by (with_reducible repeat (first | refine blk_drewN ?_ _ | refine blk_drew ?_ | refine blk_alloc ?_ _)); exact BK189.out) hb); have n3_ := Aside0.mk (blk_below (g := gb191) (o := .cells #[.slice AR xr4.length CR, .bool xq4] 53 (0, 0)) (by (with_reducible repeat (first | refine blk_drewN ?_ _ | refine blk_drew ?_ | refine blk_alloc ?_ _)); exact BK191.out) hb); have n4_ := Aside0.mk (blk_below (g := gb194) (o := .cells #[.slice Ao88 x195000_4.length co88, .slice Ao89 x195001_2.length co89, .int .i64 t193, .int .i64 t192] 30 (0, 0)) (by (with_reducible repeat (first | refine blk_drewN ?_ _ | refine blk_drew ?_ | refine blk_alloc ?_ _)); exact BK194.out) hb); have n5_ := Aside0.mk (below_step (by repeat (first | (with_reducible first | exact HB.out | apply below_alloc | apply pw_below_drewN | apply below_drew1 | refine below_set ?_ GE189.out | refine below_set ?_ GE191.out | refine below_set ?_ GE194.out) | exact HB.out)) hb); clear HO_195000; clear HO_195001; clear BK189; clear BK191; clear BK194; clear HB; have HO_195000 := n0_; have HO_195001 := n1_; have BK189 := n2_; have BK191 := n3_; have BK194 := n4_; have HB := n5_; clear n0_ n1_ n2_ n3_ n4_ n5_; (try clear hb); (try clear hb2); (try clear hk); (try clear hi); have hcz91_0 : w90.cell? ⟨gb194, 0, none⟩ = some (.slice Ao88 x195000_4.length co88) := (blk_cell BK194.out 0).trans rfl; have hcz91_1 : w90.cell? ⟨gb194, 1, none⟩ = some (.slice Ao89 x195001_2.length co89) := (blk_cell BK194.out 1).trans rfl; have hcz91_2 : w90.cell? ⟨gb194, 2, none⟩ = some (.int .i64 t193) := (blk_cell BK194.out 2).trans rfl; have hcz91_3 : w90.cell? ⟨gb194, 3, none⟩ = some (.int .i64 t192) := (blk_cell BK194.out 3).trans rfl; have hfz91_0 := blk_frozen BK194.out 0; have hfz91_1 := blk_frozen BK194.out 1; have hfz91_2 := blk_frozen BK194.out 2; have hfz91_3 := blk_frozen BK194.out 3; have hnb92 := NB189_191.out; have hnc92 := NB191_189.out; have hcz93_0 : w90.cell? ⟨gb189, 0, none⟩ = some (.slice none 0 0) := (blk_cell BK189.out 0).trans rfl; have hcz93_1 : w90.cell? ⟨gb189, 1, none⟩ = some (.slice none 0 0) := (blk_cell BK189.out 1).trans rfl; have hcz93_2 : w90.cell? ⟨gb189, 2, none⟩ = some (.int .i64 x190002_4) := (blk_cell BK189.out 2).trans rfl; have hcz93_3 : w90.cell? ⟨gb189, 3, none⟩ = some (.int .i64 x190003_4) := (blk_cell BK189.out 3).trans rfl; have hfz93_0 := blk_frozen BK189.out 0; have hfz93_1 := blk_frozen BK189.out 1; have hfz93_2 := blk_frozen BK189.out 2; have hfz93_3 := blk_frozen BK189.out 3))
                            refine bodyPost_ret (results_ct rfl _ _ gb189 30 #[.slice Ao88 x195000_4.length co88, .slice Ao89 x195001_2.length co89, .int .i64 t193, .int .i64 t192] (0, 0) _ rfl (by (with_reducible repeat (first | refine blk_drewN ?_ _ | refine blk_drew ?_ | refine blk_alloc ?_ _)); refine blk_put (cs := #[.slice Ao88 x195000_4.length co88, .slice Ao89 x195001_2.length co89, .int .i64 t193, .int .i64 x190003_4]) ?_ 3 _ rfl; (with_reducible repeat (first | refine blk_drewN ?_ _ | refine blk_drew ?_ | refine blk_alloc ?_ _)); refine blk_put (cs := #[.slice Ao88 x195000_4.length co88, .slice Ao89 x195001_2.length co89, .int .i64 x190002_4, .int .i64 x190003_4]) ?_ 2 _ rfl; (with_reducible repeat (first | refine blk_drewN ?_ _ | refine blk_drew ?_ | refine blk_alloc ?_ _)); refine blk_put (cs := #[.slice Ao88 x195000_4.length co88, .slice none 0 0, .int .i64 x190002_4, .int .i64 x190003_4]) ?_ 1 _ rfl; (with_reducible repeat (first | refine blk_drewN ?_ _ | refine blk_drew ?_ | refine blk_alloc ?_ _)); refine blk_put (cs := #[.slice none 0 0, .slice none 0 0, .int .i64 x190002_4, .int .i64 x190003_4]) ?_ 0 _ rfl; (with_reducible repeat (first | refine blk_drewN ?_ _ | refine blk_drew ?_ | refine blk_alloc ?_ _)); exact BK189.out) Try.underlying30 rfl (by kernel_rfl)) rfl ?_
                            exact ⟨_, _, by first | rfl | (simp [errW_none, errW_some] <;> rfl) | (simp [*, errW_none, errW_some] <;> rfl), by (with_reducible repeat (first | apply Kd.R_alloc | apply Kd.R_drewN | apply Kd.R_drew)); exact Kd.R_mono (Kd.R_far (p := ⟨gb189, 3, none⟩) (Kd.R_far (p := ⟨gb189, 2, none⟩) (Kd.R_far (p := ⟨gb189, 1, none⟩) (Kd.R_far (p := ⟨gb189, 0, none⟩) (Kd.R_types HO_195000.out BK189.out (by decide)) (fun _ hk => hk.2) (.slice Ao88 x195000_4.length co88)) (fun _ hk => hk.2) (.slice Ao89 x195001_2.length co89)) (fun _ hk => hk.2) (.int .i64 t193)) (fun _ hk => hk.2) (.int .i64 t192)) (fun _ hk => trivial), by (with_reducible repeat (first | apply Kd.R_alloc | apply Kd.R_drewN | apply Kd.R_drew)); exact Kd.R_mono (Kd.R_far (p := ⟨gb189, 3, none⟩) (Kd.R_far (p := ⟨gb189, 2, none⟩) (Kd.R_far (p := ⟨gb189, 1, none⟩) (Kd.R_far (p := ⟨gb189, 0, none⟩) (Kd.R_types HO_195001.out BK189.out (by decide)) (fun _ hk => hk.2) (.slice Ao88 x195000_4.length co88)) (fun _ hk => hk.2) (.slice Ao89 x195001_2.length co89)) (fun _ hk => hk.2) (.int .i64 t193)) (fun _ hk => hk.2) (.int .i64 t192)) (fun _ hk => trivial), by repeat (first | (with_reducible first | exact HB.out | apply below_alloc | apply pw_below_drewN | apply below_drew1 | refine below_set ?_ GE189.out | refine below_set ?_ GE191.out | refine below_set ?_ GE194.out) | exact HB.out)⟩
                          · replace c84 := Bool.eq_false_iff.mpr c84
                            subst c84
                            have H1 : (some (([] : List (S26)), ([] : List (S33)), 0, 0, 2)) = some (r1, r2, r3, r4, r5) := by rw [if_neg (show ¬ (false = true) by decide)] at H; exact H
                            clear H
                            have H := H1
                            clear H1
                            simp only [Option.some.injEq, Prod.mk.injEq] at H
                            obtain ⟨rfl, rfl, rfl, rfl, rfl⟩ := H
                            have hnb94 := NB194_189.out
                            have hnc94 := NB189_194.out
                            have hnb95 := NB194_191.out
                            have hnc95 := NB191_194.out
                            have hcz96_0 : wr.cell? ⟨gb194, 0, none⟩ = some (u195000) := (blk_cell BK194.out 0).trans rfl
                            have hcz96_1 : wr.cell? ⟨gb194, 1, none⟩ = some (u195001) := (blk_cell BK194.out 1).trans rfl
                            have hcz96_2 : wr.cell? ⟨gb194, 2, none⟩ = some (.int .i64 t193) := (blk_cell BK194.out 2).trans rfl
                            have hcz96_3 : wr.cell? ⟨gb194, 3, none⟩ = some (.int .i64 t192) := (blk_cell BK194.out 3).trans rfl
                            have hfz96_0 := blk_frozen BK194.out 0
                            have hfz96_1 := blk_frozen BK194.out 1
                            have hfz96_2 := blk_frozen BK194.out 2
                            have hfz96_3 := blk_frozen BK194.out 3
                            obtain ⟨Ao97, co97, eo97⟩ := Kd.R_slice HO_195000.out
                            subst eo97
                            obtain ⟨Ao98, co98, eo98⟩ := Kd.R_slice HO_195001.out
                            subst eo98
                            go_wp2_with (first | ((with_reducible refine gate_callee (f := 8) rfl ?_); refine goesL_ (some 99) rfl rfl Try.func8 (by kernel_rfl) rfl #[.agg #[.slice Ao97 x195000_4.length co97, .slice Ao98 x195001_2.length co98, .int .i64 t193, .int .i64 t192]] rfl (by (try simp only [List.map_toArray, List.map_cons, List.map_nil]); first | done | rfl | (simp only [List.length_drop, List.length_take]; rfl)) ?_; (with_reducible refine (image_Image_Right.calls k4 _ _ x195000_4 _ _ x195001_2 t193 t192 false _ ?side1 ?side2 ?side3 ?side4 A83.out).mono ?_); (case side1 => repeat (first | exact (Kd.R_reads' HO_195000.out).2.2 | (with_reducible refine Kd.C_alloc ?_ _) | (with_reducible refine Kd.C_drewN ?_ _) | (with_reducible refine Kd.C_drew ?_))); (case side2 => exact (Kd.R_reads' HO_195000.out).2.1); (case side3 => repeat (first | exact (Kd.R_reads' HO_195001.out).2.2 | (with_reducible refine Kd.C_alloc ?_ _) | (with_reducible refine Kd.C_drewN ?_ _) | (with_reducible refine Kd.C_drew ?_))); (case side4 => exact (Kd.R_reads' HO_195001.out).2.1); rintro e w99 ⟨rfl, hb⟩; refine ⟨_, rfl, ?_⟩; have n0_ := Aside0.mk (Kd.R_below (by (with_reducible repeat (first | apply Kd.R_alloc | apply Kd.R_drewN | apply Kd.R_drew)); exact HO_195000.out) hb); have n1_ := Aside0.mk (Kd.R_below (by (with_reducible repeat (first | apply Kd.R_alloc | apply Kd.R_drewN | apply Kd.R_drew)); exact HO_195001.out) hb); have n2_ := Aside0.mk (blk_below (g := gb189) (o := .cells #[.slice none 0 0, .slice none 0 0, .int .i64 x190002_4, .int .i64 x190003_4] 30 (0, 0)) (by (with_reducible repeat (first | refine blk_drewN ?_ _ | refine blk_drew ?_ | refine blk_alloc ?_ _)); exact BK189.out) hb); have n3_ := Aside0.mk (blk_below (g := gb191) (o := .cells #[.slice AR xr4.length CR, .bool xq4] 53 (0, 0)) (by (with_reducible repeat (first | refine blk_drewN ?_ _ | refine blk_drew ?_ | refine blk_alloc ?_ _)); exact BK191.out) hb); have n4_ := Aside0.mk (blk_below (g := gb194) (o := .cells #[.slice Ao97 x195000_4.length co97, .slice Ao98 x195001_2.length co98, .int .i64 t193, .int .i64 t192] 30 (0, 0)) (by (with_reducible repeat (first | refine blk_drewN ?_ _ | refine blk_drew ?_ | refine blk_alloc ?_ _)); exact BK194.out) hb); have n5_ := Aside0.mk (below_step (by repeat (first | (with_reducible first | exact HB.out | apply below_alloc | apply pw_below_drewN | apply below_drew1 | refine below_set ?_ GE189.out | refine below_set ?_ GE191.out | refine below_set ?_ GE194.out) | exact HB.out)) hb); clear HO_195000; clear HO_195001; clear BK189; clear BK191; clear BK194; clear HB; have HO_195000 := n0_; have HO_195001 := n1_; have BK189 := n2_; have BK191 := n3_; have BK194 := n4_; have HB := n5_; clear n0_ n1_ n2_ n3_ n4_ n5_; (try clear hb); (try clear hb2); (try clear hk); (try clear hi); have hnb100 := NB189_191.out; have hnc100 := NB191_189.out; have hcz101_0 : w99.cell? ⟨gb189, 0, none⟩ = some (.slice none 0 0) := (blk_cell BK189.out 0).trans rfl; have hcz101_1 : w99.cell? ⟨gb189, 1, none⟩ = some (.slice none 0 0) := (blk_cell BK189.out 1).trans rfl; have hcz101_2 : w99.cell? ⟨gb189, 2, none⟩ = some (.int .i64 x190002_4) := (blk_cell BK189.out 2).trans rfl; have hcz101_3 : w99.cell? ⟨gb189, 3, none⟩ = some (.int .i64 x190003_4) := (blk_cell BK189.out 3).trans rfl; have hfz101_0 := blk_frozen BK189.out 0; have hfz101_1 := blk_frozen BK189.out 1; have hfz101_2 := blk_frozen BK189.out 2; have hfz101_3 := blk_frozen BK189.out 3))
                            refine bodyPost_ret (results_ct rfl _ _ gb189 30 #[.slice none 0 0, .slice none 0 0, .int .i64 0, .int .i64 0] (0, 0) _ rfl (by (with_reducible repeat (first | refine blk_drewN ?_ _ | refine blk_drew ?_ | refine blk_alloc ?_ _)); refine blk_put (cs := #[.slice none 0 0, .slice none 0 0, .int .i64 0, .int .i64 x190003_4]) ?_ 3 _ rfl; (with_reducible repeat (first | refine blk_drewN ?_ _ | refine blk_drew ?_ | refine blk_alloc ?_ _)); refine blk_put (cs := #[.slice none 0 0, .slice none 0 0, .int .i64 x190002_4, .int .i64 x190003_4]) ?_ 2 _ rfl; (with_reducible repeat (first | refine blk_drewN ?_ _ | refine blk_drew ?_ | refine blk_alloc ?_ _)); refine blk_put (cs := #[.slice none 0 0, .slice none 0 0, .int .i64 x190002_4, .int .i64 x190003_4]) ?_ 1 _ rfl; (with_reducible repeat (first | refine blk_drewN ?_ _ | refine blk_drew ?_ | refine blk_alloc ?_ _)); refine blk_put (cs := #[.slice none 0 0, .slice none 0 0, .int .i64 x190002_4, .int .i64 x190003_4]) ?_ 0 _ rfl; (with_reducible repeat (first | refine blk_drewN ?_ _ | refine blk_drew ?_ | refine blk_alloc ?_ _)); exact BK189.out) Try.underlying30 rfl (by kernel_rfl)) rfl ?_
                            exact ⟨_, _, by first | rfl | (simp [errW_none, errW_some] <;> rfl) | (simp [*, errW_none, errW_some] <;> rfl), by first | exact Kd.R_nil _ _ _ _ _ | exact Kd.N_nil _ _ _ _ _ | exact Kd.V_nil _ _ _ _ _ | exact Kd.Q_nil _ _ _ _ _ | exact Kd.S_nil _ _ _ _ _, by first | exact Kd.R_nil _ _ _ _ _ | exact Kd.N_nil _ _ _ _ _ | exact Kd.V_nil _ _ _ _ _ | exact Kd.Q_nil _ _ _ _ _ | exact Kd.S_nil _ _ _ _ _, by repeat (first | (with_reducible first | exact HB.out | apply below_alloc | apply pw_below_drewN | apply below_drew1 | refine below_set ?_ GE189.out | refine below_set ?_ GE191.out | refine below_set ?_ GE194.out) | exact HB.out)⟩


end Go.Proofs.Yteabbcnoamhofaa.B
