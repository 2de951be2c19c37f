/- ParseNests: brackets, signs, blocks, nested as deep as may be, and a part deeper. -/
import Derived.Test.YtenkganofobioaaDoorPaHead
import Derived.Test.YtenkganofobioaaDoorPaNestsP
namespace Go.Proofs.YtenkganofobioaaDoor.B
open Go.RowKit Go.Proofs.YtenkganofobioaaDoor.Mine Go.Proofs.YtenkganofobioaaDoor.Sep Go.Proofs.YtenkganofobioaaDoorW.PrintWords Go.Proofs.YtenkganofobioaaDoorW.PrintLast Go.Proofs.YtenkganofobioaaDoorW.PrintMore
set_option linter.unusedVariables false
set_option linter.unusedSimpArgs false
attribute [local go_sem] Instr.field asAgg
attribute [local go_sem high] eqA34 eqA32
theorem mod_in (n : Int) (m : Nat) (hm : 0 < m) (hm2 : m < 1000000) : ∃ j : Nat, j < m ∧ wrap64 ((IntKind.u64.wrap n).tmod (m : Int)) = (j : Int) := by
  have h0 : 0 ≤ IntKind.u64.wrap n := by
    show 0 ≤ n % _
    exact Int.emod_nonneg _ (by decide)
  have h1 : (IntKind.u64.wrap n).tmod (m : Int) = (IntKind.u64.wrap n) % (m : Int) := Int.tmod_eq_emod_of_nonneg h0
  have h2 := Int.emod_nonneg (IntKind.u64.wrap n) (show (m : Int) ≠ 0 by omega)
  have h3 := Int.emod_lt_of_pos (IntKind.u64.wrap n) (show (0 : Int) < m by omega)
  refine ⟨((IntKind.u64.wrap n) % (m : Int)).toNat, by omega, ?_⟩
  rw [h1, w64 _ (by omega) (by omega)]
  omega
theorem and255 (n : Int) : Go.bits .and .i64 n 255 = n % 256 := by
  have h1 : (BitVec.ofInt 64 255).toNat = 2 ^ 8 - 1 := by decide
  have key : (BitVec.ofInt 64 n &&& BitVec.ofInt 64 255).toNat = (n % ((2 ^ 64 : Nat) : Int)).toNat % 2 ^ 8 := by
    rw [BitVec.toNat_and, BitVec.toNat_ofInt, h1, Nat.and_two_pow_sub_one_eq_mod]
  show IntKind.i64.wrap ((BitVec.ofInt 64 n &&& BitVec.ofInt 64 255).toNat : Nat) = n % 256
  rw [key, IntKind.wrap_i64]
  omega
theorem open_cells : ∀ j : Nat, j < 5 → (#[.string ⟨#[40]⟩, .string ⟨#[45]⟩, .string ⟨#[33]⟩, .string ⟨#[105, 102, 32, 97, 32, 123]⟩, .string ⟨#[119, 104, 105, 108, 101, 32, 97, 32, 123]⟩] : Array Value)[j]? = some (.string (bs (nOpen j))) ∧ (#[.string ⟨#[41]⟩, .string ⟨#[]⟩, .string ⟨#[]⟩, .string ⟨#[125]⟩, .string ⟨#[125]⟩] : Array Value)[j]? = some (.string (bs (nShut j))) := by
  intro j hj
  match j, hj with
  | 0, _ => exact ⟨rfl, rfl⟩
  | 1, _ => exact ⟨rfl, rfl⟩
  | 2, _ => exact ⟨rfl, rfl⟩
  | 3, _ => exact ⟨rfl, rfl⟩
  | 4, _ => exact ⟨rfl, rfl⟩
/-- What the law asks of the answer. -/
def NestR (W : World) (w' : World) (e : Ending) (L : List Chunk) (deep : Nat) : Prop :=
  (200 < deep ∧ ∃ l c : Int, e = .returned (.tuple #[.agg #[.slice none 0 0, .slice none 0 0], .agg #[.int .i64 13, .int .i64 l, .int .i64 c]]) ∧ Sat W w' L) ∨
  (deep ≤ 200 ∧ ∃ (A B : Option Addr) (a b : Nat) (f : FU), e = .returned (.tuple #[.agg #[.slice A 0 a, .slice B 1 b], .agg #[.int .i64 0, .int .i64 0, .int .i64 0]]) ∧ Sat W w' (row k75 75 (.slice A 0 a) [] :: row k41 41 (.slice B 1 b) [f] :: L))
theorem nest_calls {W w : World} {L : List Chunk} (hG : GL W) (ho : OldIn W L) (HS : Sat W w L) (k n : Nat) (hk : k < 5) (hn : n ≤ 255) : Calls Tryd.prog 10 #[.string (bs (nestT k n))] w fun e w' => NestR W w' e L (nDeep k n) := by
  rcases nest_parse k n hk hn with ⟨a, l, c, q⟩ | ⟨a, f, q⟩
  · refine (program_calls hG ho _ 900 _ q HS).mono ?_
    rintro e w' ⟨_, h1, h2⟩
    exact .inl ⟨a, l, c, h1, h2⟩
  · refine (program_calls hG ho _ 900 _ q HS).mono ?_
    rintro e w' ⟨A, B, a', b', h1, h2⟩
    exact .inr ⟨a, A, B, a', b', f, h1, h2⟩
set_option maxRecDepth 100000 in
set_option maxHeartbeats 8000000 in
theorem nests_walk (kind n : Int) (W : World) (_ : (Lit.int .i64 kind).wf = true) (_ : (Lit.int .i64 n).wf = true) (hL : laidMetH Tryd.prog astLaid W) :
    Calls Tryd.prog 4 #[.int .i64 kind, .int .i64 n] W fun e W' => e = .returned (.bool true) ∧ Below W.heap.size W W' := by
  have hG := of_laid hL
  have HS := Sat.start W
  obtain ⟨j, hj, hJ'⟩ := mod_in kind 5 (by decide) (by decide)
  obtain ⟨J, hJe⟩ : ∃ J : Int, J = (j : Int) := ⟨_, rfl⟩
  have hJ : wrap64 ((IntKind.u64.wrap kind).tmod 5) = J := by rw [hJe]; exact hJ'
  have HJ := Aside0.mk (show J.toNat = j ∧ J = (j : Int) ∧ j < 5 from ⟨by omega, hJe, hj⟩)
  obtain ⟨p, hp, hP'⟩ : ∃ p : Nat, p < 256 ∧ Go.bits .and .i64 n 255 = (p : Int) := ⟨(n % 256).toNat, by omega, by rw [and255]; omega⟩
  obtain ⟨P, hPe⟩ : ∃ P : Int, P = (p : Int) := ⟨_, rfl⟩
  have hP : Go.bits .and .i64 n 255 = P := by rw [hPe]; exact hP'
  have HPN := Aside0.mk (show P = (p : Int) ∧ p < 256 from ⟨hPe, hp⟩)
  obtain ⟨O, hO⟩ : ∃ O, O = nOpen j := ⟨_, rfl⟩
  obtain ⟨U, hU⟩ : ∃ O, O = nShut j := ⟨_, rfl⟩
  have HOL := Aside0.mk (show O.length ≤ 9 ∧ U.length ≤ 1 from by rw [hO, hU]; exact open_len j hj)
  obtain ⟨D, hD⟩ : ∃ D, D = nDeep j p := ⟨_, rfl⟩
  have HDD := Aside0.mk hD
  have HPR := Aside0.mk (fun (w : World) (L : List Chunk) (ho : OldIn W L) (HS : Sat W w L) => by have := nest_calls hG ho HS j p hj (by omega); rw [← hD] at this; exact this)
  unfold nestT at HPR
  rw [← hO, ← hU] at HPR
  have hkb : (if j < 3 then ((((nPre ++ rep p O) ++ [49]) ++ rep p U) ++ nPost) else (((nPre2 ++ rep p O) ++ rep p U) ++ nPost2)) = (if j < 3 then ((((nPre ++ rep p O) ++ [49]) ++ rep p U) ++ nPost) else (((nPre2 ++ rep p O) ++ rep p U) ++ nPost2)) := rfl
  obtain ⟨k0, k1⟩ := open_cells j hj
  rw [← hO] at k0
  rw [← hU] at k1
  have HK0 := Aside0.mk k0
  have HK1 := Aside0.mk k1
  clear hkb k0 k1 hJ' hJe hj hP' hPe hp hO hU hD
  go_enter Tryd.func4, Tryd.ntmps4
  go_upto_region 3 with (go_at_call 9; refine (head_calls hG ⟨0, rfl⟩ HS).mono ?_; rintro e_ w_ ⟨rfl, HS_⟩; clear HS; have HS := HS_; clear HS_)
  go_upto_region 5 with ((with_reducible refine gate_dst (N := 19) rfl ?_); go_must (refine ev_litb HS rfl (N := 19) rfl (cs := #[.string ⟨#[40]⟩, .string ⟨#[45]⟩, .string ⟨#[33]⟩, .string ⟨#[105, 102, 32, 97, 32, 123]⟩, .string ⟨#[119, 104, 105, 108, 101, 32, 97, 32, 123]⟩]) (e := 9) (n := 5) ?hrun ?_); (case hrun => first | (go_simp; done) | (go_simp; rfl)); clear HS; intro g19 w HS)
  go_upto_region 6 with ((with_reducible refine gate_dst (N := 20) rfl ?_); go_must (refine ev_litb HS rfl (N := 20) rfl (cs := #[.string ⟨#[41]⟩, .string ⟨#[]⟩, .string ⟨#[]⟩, .string ⟨#[125]⟩, .string ⟨#[125]⟩]) (e := 9) (n := 5) ?hrun ?_); (case hrun => first | (go_simp; done) | (go_simp; rfl)); clear HS; intro g20 w HS)
  have hc0 := (HS.cell 1 rfl j).trans HK0.out
  have hc1 := (HS.cell 0 rfl j).trans HK1.out
  rw [← HJ.out.1] at hc0 hc1
  have r1 : (0 ≤ J) = True := eq_true (by have := HJ.out; omega)
  have r2 : (J < 5) = True := eq_true (by have := HJ.out; omega)
  go_wp2
  rw [hJ]
  go_loopg [8, 9, 10] 257 (fun kq v8 v9 v10 w' => ∃ (i : Nat), v8 = .string (bs (rep i O)) ∧ v9 = .string (bs (rep i U)) ∧ v10 = .int .i64 (i : Int) ∧ Aside0 (i ≤ p ∧ 256 < kq + i) ∧ Aside0 (w' = w))
  case atStart => exact ⟨0, rfl, rfl, rfl, ⟨by omega, by omega⟩, ⟨rfl⟩⟩
  case round =>
    obtain ⟨i, rfl, rfl, rfl, HI, HW⟩ := hrel
    obtain rfl := HW.out
    clear HW
    cases gk with
    | zero => have := HI.out; have := HPN.out; omega
    | succ k1 =>
      by_cases hi : i < p
      · obtain ⟨I, hI⟩ : ∃ I : Int, I = (i : Int) := ⟨_, rfl⟩
        have HIE := Aside0.mk hI
        rw [← hI]
        have c1_ : decide (I < P) = true := decide_eq_true (by have := HPN.out; omega)
        have hwi : wrap64 (I + 1) = I + 1 := w64 _ (by have := HPN.out; omega) (by have := HPN.out; omega)
        have hs0 := Aside0.mk (show (rep i O).length + O.length ≤ 10000 from by rw [rep_len]; have := HOL.out; have := HPN.out; have : i * O.length ≤ 256 * 9 := Nat.mul_le_mul (by omega) (by omega); omega)
        have hs1 := Aside0.mk (show (rep i U).length + U.length ≤ 10000 from by rw [rep_len]; have := HOL.out; have := HPN.out; have : i * U.length ≤ 256 * 1 := Nat.mul_le_mul (by omega) (by omega); omega)
        have HII := Aside0.mk hi
        clear hi hI
        go_wp2_with (first | ((with_reducible refine gate_dst (N := 35) rfl ?_); go_must (refine ev_cat (p := rep i O) (q := O) Tryd.underlying9 rfl rfl rfl rfl rfl (by have := hs0.out; omega) ?_)) | ((with_reducible refine gate_dst (N := 41) rfl ?_); go_must (refine ev_cat (p := rep i U) (q := U) Tryd.underlying9 rfl rfl rfl rfl rfl (by have := hs1.out; omega) ?_)))
        go_roundg k1
        case measure => exact Nat.lt_succ_self _
        case rel => exact ⟨i + 1, by rw [rep_snoc], by rw [rep_snoc], by first | (rw [hwi, HIE.out]; rfl) | (rw [HIE.out]; rfl), ⟨by have := HII.out; omega, by have := HI.out; omega⟩, ⟨rfl⟩⟩
      · have hip : i = p := by have := HI.out; omega
        subst hip
        have HPI := Aside0.mk (show P = (i : Int) from HPN.out.1)
        rw [← HPI.out]
        have c1_ : decide (P < P) = false := decide_eq_false (by omega)
        have hlo := Aside0.mk (show (rep i O).length ≤ 2304 ∧ (rep i U).length ≤ 256 from ⟨by rw [rep_len]; have := HOL.out; have := HPN.out; have : i * O.length ≤ 256 * 9 := Nat.mul_le_mul (by omega) (by omega); omega, by rw [rep_len]; have := HOL.out; have := HPN.out; have : i * U.length ≤ 256 * 1 := Nat.mul_le_mul (by omega) (by omega); omega⟩)
        obtain ⟨X, hX⟩ : ∃ X, X = rep i O := ⟨_, rfl⟩
        obtain ⟨Y, hY⟩ : ∃ X, X = rep i U := ⟨_, rfl⟩
        rw [← hX, ← hY] at hlo HPR ⊢
        clear hX hY hi hc0 hc1 HK0 HK1
        have hw2 : wrap64 (2 + P) = 2 + P := w64 _ (by have := HPN.out; omega) (by have := HPN.out; omega)
        have hw1 : wrap64 (1 + P) = 1 + P := w64 _ (by have := HPN.out; omega) (by have := HPN.out; omega)
        by_cases hj3 : j < 3
        · rw [if_pos hj3] at HPR
          unfold nPre nPost at HPR
          simp only [List.append_assoc, List.cons_append, List.nil_append] at HPR
          have HDE := Aside0.mk (show (D : Int) = 2 + P from by rw [HDD.out, HPI.out]; unfold nDeep; rw [if_pos hj3]; omega)
          have c3_ : decide (3 ≤ J) = false := decide_eq_false (by have := HJ.out; omega)
          clear hj3
          by_cases hdd : 200 < D
          · have HPC := Aside0.mk (fun (w : World) (L : List Chunk) (ho : OldIn W L) (HS : Sat W w L) => (HPR.out w L ho HS).mono (R' := fun e w' => ∃ l c : Int, e = .returned (.tuple #[.agg #[.slice none 0 0, .slice none 0 0], .agg #[.int .i64 13, .int .i64 l, .int .i64 c]]) ∧ Sat W w' L) (fun e w' h => by rcases h with ⟨_, l, c, h1, h2⟩ | ⟨h0, _⟩; exact ⟨l, c, h1, h2⟩; omega))
            have c4_ : decide (200 < 2 + P) = true := decide_eq_true (by have := HDE.out; omega)
            clear HPR hdd
            go_upto_region 20 with (first | ((with_reducible refine gate_dst (N := 43) rfl ?_); go_must (refine ev_cat (p := [102, 117, 110, 99, 32, 102, 40, 41, 32, 123, 32, 114, 101, 116, 117, 114, 110, 32]) (q := X) Tryd.underlying9 rfl rfl rfl rfl rfl (by have := hlo.out; simp only [List.length_append, List.length_cons, List.length_nil]; omega) ?_)) | ((with_reducible refine gate_dst (N := 44) rfl ?_); go_must (refine ev_cat (p := [102, 117, 110, 99, 32, 102, 40, 41, 32, 123, 32, 114, 101, 116, 117, 114, 110, 32] ++ X) (q := [49]) Tryd.underlying9 rfl rfl rfl rfl rfl (by have := hlo.out; simp only [List.length_append, List.length_cons, List.length_nil]; omega) ?_)) | ((with_reducible refine gate_dst (N := 46) rfl ?_); go_must (refine ev_cat (p := [102, 117, 110, 99, 32, 102, 40, 41, 32, 123, 32, 114, 101, 116, 117, 114, 110, 32] ++ X ++ [49]) (q := Y) Tryd.underlying9 rfl rfl rfl rfl rfl (by have := hlo.out; simp only [List.length_append, List.length_cons, List.length_nil]; omega) ?_)) | ((with_reducible refine gate_dst (N := 47) rfl ?_); go_must (refine ev_cat (p := [102, 117, 110, 99, 32, 102, 40, 41, 32, 123, 32, 114, 101, 116, 117, 114, 110, 32] ++ X ++ [49] ++ Y) (q := [59, 32, 125]) Tryd.underlying9 rfl rfl rfl rfl rfl (by have := hlo.out; simp only [List.length_append, List.length_cons, List.length_nil]; omega) ?_)) | (go_at_call 10; go_must (refine (HPC.out _ _ (by exact ⟨2, rfl⟩) HS).mono ?_); rintro e_ w_ ⟨fl, fc, rfl, HS_⟩; clear HS; have HS := HS_; clear HS_) | ((with_reducible refine gate_dst (N := 13) rfl ?_); go_must (refine ev_box HS rfl (N := 13) rfl (cs := #[.slice none 0 0, .slice none 0 0]) (t := 30) ?hrun ?_); (case hrun => first | (go_simp; done) | (go_simp; rfl)); clear HS; intro g13 w HS) | ((with_reducible refine gate_dst (N := 14) rfl ?_); go_must (refine ev_box HS rfl (N := 14) rfl (cs := #[.int .i64 0, .int .i64 0, .int .i64 0]) (t := 34) ?hrun ?_); (case hrun => first | (go_simp; done) | (go_simp; rfl)); clear HS; intro g14 w HS) | ((with_reducible refine gate_store (t := 30) (p := 13) rfl ?_); go_must (refine ev_store HS 1 rfl rfl 30 (.tmp 13) (.tmp 62) rfl rfl rfl [.slice none 0 0, .slice none 0 0] ?hx (by kernel_rfl) (by rfl) ?h1 ?_); (case hx => first | rfl | (go_simp; done)); (case h1 => simp [Value.oneCell']); clear HS; intro w HS) | ((with_reducible refine gate_store (t := 34) (p := 14) rfl ?_); go_must (refine ev_store HS 0 rfl rfl 34 (.tmp 14) (.tmp 63) rfl rfl rfl [.int .i64 13, .int .i64 fl, .int .i64 fc] ?hx (by kernel_rfl) (by rfl) ?h1 ?_); (case hx => first | rfl | (go_simp; done)); (case h1 => simp [Value.oneCell']); clear HS; intro w HS))
            have cb := HS.cell 0 rfl
            have cb1 := HS.cell 1 rfl
            go_wp2
            go_ret
            exact ⟨rfl, HS.old 4 rfl⟩
          · have HPC := Aside0.mk (fun (w : World) (L : List Chunk) (ho : OldIn W L) (HS : Sat W w L) => (HPR.out w L ho HS).mono (R' := fun e w' => ∃ (A B : Option Addr) (a b : Nat) (f : FU), e = .returned (.tuple #[.agg #[.slice A 0 a, .slice B 1 b], .agg #[.int .i64 0, .int .i64 0, .int .i64 0]]) ∧ Sat W w' (row k75 75 (.slice A 0 a) [] :: row k41 41 (.slice B 1 b) [f] :: L)) (fun e w' h => by rcases h with ⟨h0, _⟩ | ⟨_, A, B, a, b, f, h1, h2⟩; omega; exact ⟨A, B, a, b, f, h1, h2⟩))
            have c4_ : decide (200 < 2 + P) = false := decide_eq_false (by have := HDE.out; omega)
            clear HPR hdd
            go_upto_region 20 with (first | ((with_reducible refine gate_dst (N := 43) rfl ?_); go_must (refine ev_cat (p := [102, 117, 110, 99, 32, 102, 40, 41, 32, 123, 32, 114, 101, 116, 117, 114, 110, 32]) (q := X) Tryd.underlying9 rfl rfl rfl rfl rfl (by have := hlo.out; simp only [List.length_append, List.length_cons, List.length_nil]; omega) ?_)) | ((with_reducible refine gate_dst (N := 44) rfl ?_); go_must (refine ev_cat (p := [102, 117, 110, 99, 32, 102, 40, 41, 32, 123, 32, 114, 101, 116, 117, 114, 110, 32] ++ X) (q := [49]) Tryd.underlying9 rfl rfl rfl rfl rfl (by have := hlo.out; simp only [List.length_append, List.length_cons, List.length_nil]; omega) ?_)) | ((with_reducible refine gate_dst (N := 46) rfl ?_); go_must (refine ev_cat (p := [102, 117, 110, 99, 32, 102, 40, 41, 32, 123, 32, 114, 101, 116, 117, 114, 110, 32] ++ X ++ [49]) (q := Y) Tryd.underlying9 rfl rfl rfl rfl rfl (by have := hlo.out; simp only [List.length_append, List.length_cons, List.length_nil]; omega) ?_)) | ((with_reducible refine gate_dst (N := 47) rfl ?_); go_must (refine ev_cat (p := [102, 117, 110, 99, 32, 102, 40, 41, 32, 123, 32, 114, 101, 116, 117, 114, 110, 32] ++ X ++ [49] ++ Y) (q := [59, 32, 125]) Tryd.underlying9 rfl rfl rfl rfl rfl (by have := hlo.out; simp only [List.length_append, List.length_cons, List.length_nil]; omega) ?_)) | (go_at_call 10; go_must (refine (HPC.out _ _ (by exact ⟨2, rfl⟩) HS).mono ?_); rintro e_ w_ ⟨A, B, a, b, f, rfl, HS_⟩; clear HS; have HS := HS_; clear HS_) | ((with_reducible refine gate_dst (N := 13) rfl ?_); go_must (refine ev_box HS rfl (N := 13) rfl (cs := #[.slice none 0 0, .slice none 0 0]) (t := 30) ?hrun ?_); (case hrun => first | (go_simp; done) | (go_simp; rfl)); clear HS; intro g13 w HS) | ((with_reducible refine gate_dst (N := 14) rfl ?_); go_must (refine ev_box HS rfl (N := 14) rfl (cs := #[.int .i64 0, .int .i64 0, .int .i64 0]) (t := 34) ?hrun ?_); (case hrun => first | (go_simp; done) | (go_simp; rfl)); clear HS; intro g14 w HS) | ((with_reducible refine gate_store (t := 30) (p := 13) rfl ?_); go_must (refine ev_store HS 1 rfl rfl 30 (.tmp 13) (.tmp 62) rfl rfl rfl [.slice A 0 a, .slice B 1 b] ?hx (by kernel_rfl) (by rfl) ?h1 ?_); (case hx => first | rfl | (go_simp; done)); (case h1 => simp [Value.oneCell']); clear HS; intro w HS) | ((with_reducible refine gate_store (t := 34) (p := 14) rfl ?_); go_must (refine ev_store HS 0 rfl rfl 34 (.tmp 14) (.tmp 63) rfl rfl rfl [.int .i64 0, .int .i64 0, .int .i64 0] ?hx (by kernel_rfl) (by rfl) ?h1 ?_); (case hx => first | rfl | (go_simp; done)); (case h1 => simp [Value.oneCell']); clear HS; intro w HS))
            have cb := HS.cell 0 rfl
            have cb1 := HS.cell 1 rfl
            go_wp2_with ((with_reducible refine gate_load (ty := 34) (p := 14) rfl ?_); go_must (refine ev_load HS 0 rfl rfl 34 (.tmp 14) rfl (N := 75) rfl rfl _ Tryd.underlying34 rfl (by kernel_rfl) ?_))
            go_ret
            exact ⟨rfl, HS.old 6 rfl⟩
        · rw [if_neg hj3] at HPR
          unfold nPre2 nPost2 at HPR
          simp only [List.append_assoc, List.cons_append, List.nil_append] at HPR
          have HDE := Aside0.mk (show (D : Int) = 1 + P from by rw [HDD.out, HPI.out]; unfold nDeep; rw [if_neg hj3]; omega)
          have c3_ : decide (3 ≤ J) = true := decide_eq_true (by have := HJ.out; omega)
          clear hj3
          by_cases hdd : 200 < D
          · have HPC := Aside0.mk (fun (w : World) (L : List Chunk) (ho : OldIn W L) (HS : Sat W w L) => (HPR.out w L ho HS).mono (R' := fun e w' => ∃ l c : Int, e = .returned (.tuple #[.agg #[.slice none 0 0, .slice none 0 0], .agg #[.int .i64 13, .int .i64 l, .int .i64 c]]) ∧ Sat W w' L) (fun e w' h => by rcases h with ⟨_, l, c, h1, h2⟩ | ⟨h0, _⟩; exact ⟨l, c, h1, h2⟩; omega))
            have c4_ : decide (200 < 1 + P) = true := decide_eq_true (by have := HDE.out; omega)
            clear HPR hdd
            go_upto_region 20 with (first | ((with_reducible refine gate_dst (N := 43) rfl ?_); go_must (refine ev_cat (p := [102, 117, 110, 99, 32, 102, 40, 41, 32, 123, 32, 114, 101, 116, 117, 114, 110, 32]) (q := X) Tryd.underlying9 rfl rfl rfl rfl rfl (by have := hlo.out; simp only [List.length_append, List.length_cons, List.length_nil]; omega) ?_)) | ((with_reducible refine gate_dst (N := 44) rfl ?_); go_must (refine ev_cat (p := [102, 117, 110, 99, 32, 102, 40, 41, 32, 123, 32, 114, 101, 116, 117, 114, 110, 32] ++ X) (q := [49]) Tryd.underlying9 rfl rfl rfl rfl rfl (by have := hlo.out; simp only [List.length_append, List.length_cons, List.length_nil]; omega) ?_)) | ((with_reducible refine gate_dst (N := 46) rfl ?_); go_must (refine ev_cat (p := [102, 117, 110, 99, 32, 102, 40, 41, 32, 123, 32, 114, 101, 116, 117, 114, 110, 32] ++ X ++ [49]) (q := Y) Tryd.underlying9 rfl rfl rfl rfl rfl (by have := hlo.out; simp only [List.length_append, List.length_cons, List.length_nil]; omega) ?_)) | ((with_reducible refine gate_dst (N := 47) rfl ?_); go_must (refine ev_cat (p := [102, 117, 110, 99, 32, 102, 40, 41, 32, 123, 32, 114, 101, 116, 117, 114, 110, 32] ++ X ++ [49] ++ Y) (q := [59, 32, 125]) Tryd.underlying9 rfl rfl rfl rfl rfl (by have := hlo.out; simp only [List.length_append, List.length_cons, List.length_nil]; omega) ?_)) | ((with_reducible refine gate_dst (N := 53) rfl ?_); go_must (refine ev_cat (p := [102, 117, 110, 99, 32, 102, 40, 41, 32, 123, 32]) (q := X) Tryd.underlying9 rfl rfl rfl rfl rfl (by have := hlo.out; simp only [List.length_append, List.length_cons, List.length_nil]; omega) ?_)) | ((with_reducible refine gate_dst (N := 55) rfl ?_); go_must (refine ev_cat (p := [102, 117, 110, 99, 32, 102, 40, 41, 32, 123, 32] ++ X) (q := Y) Tryd.underlying9 rfl rfl rfl rfl rfl (by have := hlo.out; simp only [List.length_append, List.length_cons, List.length_nil]; omega) ?_)) | ((with_reducible refine gate_dst (N := 56) rfl ?_); go_must (refine ev_cat (p := [102, 117, 110, 99, 32, 102, 40, 41, 32, 123, 32] ++ X ++ Y) (q := [32, 125]) Tryd.underlying9 rfl rfl rfl rfl rfl (by have := hlo.out; simp only [List.length_append, List.length_cons, List.length_nil]; omega) ?_)) | (go_at_call 10; go_must (refine (HPC.out _ _ (by exact ⟨2, rfl⟩) HS).mono ?_); rintro e_ w_ ⟨fl, fc, rfl, HS_⟩; clear HS; have HS := HS_; clear HS_) | ((with_reducible refine gate_dst (N := 13) rfl ?_); go_must (refine ev_box HS rfl (N := 13) rfl (cs := #[.slice none 0 0, .slice none 0 0]) (t := 30) ?hrun ?_); (case hrun => first | (go_simp; done) | (go_simp; rfl)); clear HS; intro g13 w HS) | ((with_reducible refine gate_dst (N := 14) rfl ?_); go_must (refine ev_box HS rfl (N := 14) rfl (cs := #[.int .i64 0, .int .i64 0, .int .i64 0]) (t := 34) ?hrun ?_); (case hrun => first | (go_simp; done) | (go_simp; rfl)); clear HS; intro g14 w HS) | ((with_reducible refine gate_store (t := 30) (p := 13) rfl ?_); go_must (refine ev_store HS 1 rfl rfl 30 (.tmp 13) (.tmp 62) rfl rfl rfl [.slice none 0 0, .slice none 0 0] ?hx (by kernel_rfl) (by rfl) ?h1 ?_); (case hx => first | rfl | (go_simp; done)); (case h1 => simp [Value.oneCell']); clear HS; intro w HS) | ((with_reducible refine gate_store (t := 34) (p := 14) rfl ?_); go_must (refine ev_store HS 0 rfl rfl 34 (.tmp 14) (.tmp 63) rfl rfl rfl [.int .i64 13, .int .i64 fl, .int .i64 fc] ?hx (by kernel_rfl) (by rfl) ?h1 ?_); (case hx => first | rfl | (go_simp; done)); (case h1 => simp [Value.oneCell']); clear HS; intro w HS))
            have cb := HS.cell 0 rfl
            have cb1 := HS.cell 1 rfl
            go_wp2
            go_ret
            exact ⟨rfl, HS.old 4 rfl⟩
          · have HPC := Aside0.mk (fun (w : World) (L : List Chunk) (ho : OldIn W L) (HS : Sat W w L) => (HPR.out w L ho HS).mono (R' := fun e w' => ∃ (A B : Option Addr) (a b : Nat) (f : FU), e = .returned (.tuple #[.agg #[.slice A 0 a, .slice B 1 b], .agg #[.int .i64 0, .int .i64 0, .int .i64 0]]) ∧ Sat W w' (row k75 75 (.slice A 0 a) [] :: row k41 41 (.slice B 1 b) [f] :: L)) (fun e w' h => by rcases h with ⟨h0, _⟩ | ⟨_, A, B, a, b, f, h1, h2⟩; omega; exact ⟨A, B, a, b, f, h1, h2⟩))
            have c4_ : decide (200 < 1 + P) = false := decide_eq_false (by have := HDE.out; omega)
            clear HPR hdd
            go_upto_region 20 with (first | ((with_reducible refine gate_dst (N := 43) rfl ?_); go_must (refine ev_cat (p := [102, 117, 110, 99, 32, 102, 40, 41, 32, 123, 32, 114, 101, 116, 117, 114, 110, 32]) (q := X) Tryd.underlying9 rfl rfl rfl rfl rfl (by have := hlo.out; simp only [List.length_append, List.length_cons, List.length_nil]; omega) ?_)) | ((with_reducible refine gate_dst (N := 44) rfl ?_); go_must (refine ev_cat (p := [102, 117, 110, 99, 32, 102, 40, 41, 32, 123, 32, 114, 101, 116, 117, 114, 110, 32] ++ X) (q := [49]) Tryd.underlying9 rfl rfl rfl rfl rfl (by have := hlo.out; simp only [List.length_append, List.length_cons, List.length_nil]; omega) ?_)) | ((with_reducible refine gate_dst (N := 46) rfl ?_); go_must (refine ev_cat (p := [102, 117, 110, 99, 32, 102, 40, 41, 32, 123, 32, 114, 101, 116, 117, 114, 110, 32] ++ X ++ [49]) (q := Y) Tryd.underlying9 rfl rfl rfl rfl rfl (by have := hlo.out; simp only [List.length_append, List.length_cons, List.length_nil]; omega) ?_)) | ((with_reducible refine gate_dst (N := 47) rfl ?_); go_must (refine ev_cat (p := [102, 117, 110, 99, 32, 102, 40, 41, 32, 123, 32, 114, 101, 116, 117, 114, 110, 32] ++ X ++ [49] ++ Y) (q := [59, 32, 125]) Tryd.underlying9 rfl rfl rfl rfl rfl (by have := hlo.out; simp only [List.length_append, List.length_cons, List.length_nil]; omega) ?_)) | ((with_reducible refine gate_dst (N := 53) rfl ?_); go_must (refine ev_cat (p := [102, 117, 110, 99, 32, 102, 40, 41, 32, 123, 32]) (q := X) Tryd.underlying9 rfl rfl rfl rfl rfl (by have := hlo.out; simp only [List.length_append, List.length_cons, List.length_nil]; omega) ?_)) | ((with_reducible refine gate_dst (N := 55) rfl ?_); go_must (refine ev_cat (p := [102, 117, 110, 99, 32, 102, 40, 41, 32, 123, 32] ++ X) (q := Y) Tryd.underlying9 rfl rfl rfl rfl rfl (by have := hlo.out; simp only [List.length_append, List.length_cons, List.length_nil]; omega) ?_)) | ((with_reducible refine gate_dst (N := 56) rfl ?_); go_must (refine ev_cat (p := [102, 117, 110, 99, 32, 102, 40, 41, 32, 123, 32] ++ X ++ Y) (q := [32, 125]) Tryd.underlying9 rfl rfl rfl rfl rfl (by have := hlo.out; simp only [List.length_append, List.length_cons, List.length_nil]; omega) ?_)) | (go_at_call 10; go_must (refine (HPC.out _ _ (by exact ⟨2, rfl⟩) HS).mono ?_); rintro e_ w_ ⟨A, B, a, b, f, rfl, HS_⟩; clear HS; have HS := HS_; clear HS_) | ((with_reducible refine gate_dst (N := 13) rfl ?_); go_must (refine ev_box HS rfl (N := 13) rfl (cs := #[.slice none 0 0, .slice none 0 0]) (t := 30) ?hrun ?_); (case hrun => first | (go_simp; done) | (go_simp; rfl)); clear HS; intro g13 w HS) | ((with_reducible refine gate_dst (N := 14) rfl ?_); go_must (refine ev_box HS rfl (N := 14) rfl (cs := #[.int .i64 0, .int .i64 0, .int .i64 0]) (t := 34) ?hrun ?_); (case hrun => first | (go_simp; done) | (go_simp; rfl)); clear HS; intro g14 w HS) | ((with_reducible refine gate_store (t := 30) (p := 13) rfl ?_); go_must (refine ev_store HS 1 rfl rfl 30 (.tmp 13) (.tmp 62) rfl rfl rfl [.slice A 0 a, .slice B 1 b] ?hx (by kernel_rfl) (by rfl) ?h1 ?_); (case hx => first | rfl | (go_simp; done)); (case h1 => simp [Value.oneCell']); clear HS; intro w HS) | ((with_reducible refine gate_store (t := 34) (p := 14) rfl ?_); go_must (refine ev_store HS 0 rfl rfl 34 (.tmp 14) (.tmp 63) rfl rfl rfl [.int .i64 0, .int .i64 0, .int .i64 0] ?hx (by kernel_rfl) (by rfl) ?h1 ?_); (case hx => first | rfl | (go_simp; done)); (case h1 => simp [Value.oneCell']); clear HS; intro w HS))
            have cb := HS.cell 0 rfl
            have cb1 := HS.cell 1 rfl
            go_wp2_with ((with_reducible refine gate_load (ty := 34) (p := 14) rfl ?_); go_must (refine ev_load HS 0 rfl rfl 34 (.tmp 14) rfl (N := 75) rfl rfl _ Tryd.underlying34 rfl (by kernel_rfl) ?_))
            go_ret
            exact ⟨rfl, HS.old 6 rfl⟩
end Go.Proofs.YtenkganofobioaaDoor.B
