/- ParseChains: an if behind an else, as often as one likes, is the only statement of it. -/
import Derived.Test.YtenkganofobioaaDoorPaHead
import Derived.Test.YtenkganofobioaaDoorPaChainsP
namespace Go.Proofs.YtenkganofobioaaDoor.B
open Go.RowKit Go.Proofs.YtenkganofobioaaDoor.Mine Go.Proofs.YtenkganofobioaaDoor.Sep Go.Proofs.YtenkganofobioaaDoorW.PrintWords Go.Proofs.YtenkganofobioaaDoorW.PrintLast Go.Proofs.YtenkganofobioaaDoorW.PrintMore
set_option linter.unusedVariables false
set_option linter.unusedSimpArgs false
attribute [local go_sem] Instr.field asAgg
attribute [local go_sem high] eqA34 eqA32
theorem and63 (n : Int) : Go.bits .and .i64 n 63 = n % 64 := by
  have h1 : (BitVec.ofInt 64 63).toNat = 2 ^ 6 - 1 := by decide
  have key : (BitVec.ofInt 64 n &&& BitVec.ofInt 64 63).toNat = (n % ((2 ^ 64 : Nat) : Int)).toNat % 2 ^ 6 := by
    rw [BitVec.toNat_and, BitVec.toNat_ofInt, h1, Nat.and_two_pow_sub_one_eq_mod]
  show IntKind.i64.wrap ((BitVec.ofInt 64 n &&& BitVec.ofInt 64 63).toNat : Nat) = n % 64
  rw [key, IntKind.wrap_i64]
  omega
theorem chain_calls {W w : World} {L : List Chunk} (hG : GL W) (ho : OldIn W L) (HS : Sat W w L) (n : Nat) (last : Bool) (hn : n ≤ 63) (T : List UInt8) (hT : T = chainT n last) : Calls Tryd.prog 10 #[.string (bs T)] w fun e w' => ∃ (A B : Option Addr) (a b : Nat) (f : FU) (s : ST), e = .returned (.tuple #[.agg #[.slice A 0 a, .slice B 1 b], .agg #[.int .i64 0, .int .i64 0, .int .i64 0]]) ∧ (f.f2 = [s] ∧ zS s = chSt last n 0) ∧ Sat W w' (row k75 75 (.slice A 0 a) [] :: row k41 41 (.slice B 1 b) [f] :: L) := by
  subst hT
  obtain ⟨f, s, q, q1, q2⟩ := chain_parse n last hn
  refine (program_calls hG ho _ 900 _ q HS).mono ?_
  rintro e w' ⟨A, B, a', b', h1, h2⟩
  exact ⟨A, B, a', b', f, s, h1, ⟨q1, q2⟩, h2⟩
set_option maxRecDepth 100000 in
set_option maxHeartbeats 8000000 in
theorem chains_false (n : Int) (W : World) (hL : laidMetH Tryd.prog astLaid W) :
    Calls Tryd.prog 5 #[.int .i64 n, .bool false] W fun e W' => e = .returned (.bool true) ∧ Below W.heap.size W W' := by
  have hG := of_laid hL
  have HS := Sat.start W
  obtain ⟨p, hp, hP'⟩ : ∃ p : Nat, p < 64 ∧ Go.bits .and .i64 n 63 = (p : Int) := ⟨(n % 64).toNat, by omega, by rw [and63]; omega⟩
  obtain ⟨N, hPe⟩ : ∃ P : Int, P = (p : Int) := ⟨_, rfl⟩
  have hN : Go.bits .and .i64 n 63 = N := by rw [hPe]; exact hP'
  have HPN := Aside0.mk (show N = (p : Int) ∧ p < 64 from ⟨hPe, hp⟩)
  clear hP' hPe hp
  have HPC := Aside0.mk (fun (w : World) (T : List UInt8) (hT : T = chainT p false) (HS : Sat W w [old W]) => chain_calls hG ⟨0, rfl⟩ HS p false (by have := HPN.out; omega) T hT)
  go_enter Tryd.func5, Tryd.ntmps5
  go_upto_region 3 with (go_at_call 9; refine (head_calls hG ⟨0, rfl⟩ HS).mono ?_; rintro e_ w_ ⟨rfl, HS_⟩; clear HS; have HS := HS_; clear HS_)
  go_wp2
  go_loopg [5, 6] 65 (fun kq v5 v6 w' => ∃ (i : Nat), v5 = .string (bs (chT0 ++ rep i chT1)) ∧ v6 = .int .i64 ((i : Int) + 1) ∧ Aside0 (i ≤ p ∧ 64 < kq + i) ∧ Aside0 (w' = w_))
  case atStart => exact ⟨0, rfl, rfl, ⟨by omega, by omega⟩, ⟨rfl⟩⟩
  case round =>
    obtain ⟨i, rfl, rfl, HI, HW⟩ := hrel
    obtain rfl := HW.out
    clear HW
    cases gk with
    | zero => have := HI.out; have := HPN.out; omega
    | succ k1 =>
      obtain ⟨I, hI⟩ : ∃ I : Int, I = (i : Int) + 1 := ⟨_, rfl⟩
      have HIE := Aside0.mk hI
      rw [← hI]
      by_cases hi : i < p
      · have c1_ : decide (I ≤ N) = true := decide_eq_true (by have := HPN.out; omega)
        have c2_ : (I ≤ N) = True := eq_true (by have := HPN.out; omega)
        have hwi : wrap64 (I + 1) = I + 1 := w64 _ (by have := HPN.out; omega) (by have := HPN.out; omega)
        have hlo := Aside0.mk (show (chT0 ++ rep i chT1).length ≤ 2000 from by rw [List.length_append, rep_len]; have := HPN.out; have : i * chT1.length ≤ 64 * 26 := Nat.mul_le_mul (by omega) (by decide); have : chT0.length = 31 := rfl; omega)
        have HII := Aside0.mk hi
        have HH := Aside0.mk (show chT0 ++ rep (i + 1) chT1 = (chT0 ++ rep i chT1) ++ [32, 101, 108, 115, 101, 32, 105, 102, 32, 97, 32, 61, 61, 32, 49, 32, 123, 32, 120, 32, 61, 32, 49, 59, 32, 125] from by rw [rep_snoc, List.append_assoc]; rfl)
        obtain ⟨X, hX⟩ : ∃ X, X = chT0 ++ rep i chT1 := ⟨_, rfl⟩
        rw [← hX] at hlo HH ⊢
        clear hi hI hX
        go_wp2_with (((with_reducible refine gate_dst (N := 21) rfl ?_); go_must (refine ev_cat (p := _) (q := [32, 101, 108, 115, 101, 32, 105, 102, 32, 97, 32, 61, 61, 32, 49, 32, 123, 32, 120, 32, 61, 32, 49, 59, 32, 125]) Tryd.underlying9 rfl rfl rfl rfl rfl (by have := hlo.out; (try simp only [List.length_append, List.length_cons, List.length_nil]); omega) ?_)))
        go_roundg k1
        case measure => exact Nat.lt_succ_self _
        case rel => exact ⟨i + 1, by rw [HH.out], by first | (rw [hwi, HIE.out]; rfl) | (rw [HIE.out]; rfl), ⟨by have := HII.out; omega, by have := HI.out; omega⟩, ⟨rfl⟩⟩
      · have hip : i = p := by have := HI.out; omega
        subst hip
        have c1_ : decide (I ≤ N) = false := decide_eq_false (by have := HPN.out; omega)
        have c2_ : (I ≤ N) = False := eq_false (by have := HPN.out; omega)
        have hlo := Aside0.mk (show (chT0 ++ rep i chT1).length ≤ 2000 from by rw [List.length_append, rep_len]; have := HPN.out; have : i * chT1.length ≤ 64 * 26 := Nat.mul_le_mul (by omega) (by decide); have : chT0.length = 31 := rfl; omega)
        have HCT := Aside0.mk (show chainT i false = (chT0 ++ rep i chT1) ++ [32, 125] from rfl)
        obtain ⟨X, hX⟩ : ∃ X, X = chT0 ++ rep i chT1 := ⟨_, rfl⟩
        rw [← hX] at hlo HCT ⊢
        rw [HCT.out] at HPC
        clear hi hI hX
        go_upto_region 12 with (first | ((with_reducible refine gate_dst (N := 27) rfl ?_); go_must (refine ev_cat (p := _) (q := [32, 125]) Tryd.underlying9 rfl rfl rfl rfl rfl (by have := hlo.out; (try simp only [List.length_append, List.length_cons, List.length_nil]); omega) ?_)) | (go_at_call 10; go_must (refine (HPC.out _ _ (by simp only [List.append_assoc, List.cons_append, List.nil_append]) HS).mono ?_); rintro e_ w_ ⟨A, B, a, b, f, s, rfl, hfs, HS_⟩; clear HS; have HS := HS_; clear HS_) | ((with_reducible refine gate_dst (N := 7) rfl ?_); go_must (refine ev_box HS rfl (N := 7) rfl (cs := #[.slice none 0 0, .slice none 0 0]) (t := 30) ?hrun ?_); (case hrun => first | (go_simp; done) | (go_simp; rfl)); clear HS; intro g7 w HS) | ((with_reducible refine gate_dst (N := 8) rfl ?_); go_must (refine ev_box HS rfl (N := 8) rfl (cs := #[.int .i64 0, .int .i64 0, .int .i64 0]) (t := 34) ?hrun ?_); (case hrun => first | (go_simp; done) | (go_simp; rfl)); clear HS; intro g8 w HS) | ((with_reducible refine gate_store (t := 30) (p := 7) rfl ?_); go_must (refine ev_store HS 1 rfl rfl 30 (.tmp 7) (.tmp 29) rfl rfl rfl [.slice A 0 a, .slice B 1 b] ?hx (by kernel_rfl) (by rfl) ?h1 ?_); (case hx => first | rfl | (go_simp; done)); (case h1 => simp [Value.oneCell']); clear HS; intro w HS) | ((with_reducible refine gate_store (t := 34) (p := 8) rfl ?_); go_must (refine ev_store HS 0 rfl rfl 34 (.tmp 8) (.tmp 30) rfl rfl rfl [.int .i64 0, .int .i64 0, .int .i64 0] ?hx (by kernel_rfl) (by rfl) ?h1 ?_); (case hx => first | rfl | (go_simp; done)); (case h1 => simp [Value.oneCell']); clear HS; intro w HS))
        obtain ⟨f2, hz⟩ := hfs
        have cb := HS.cell 1 rfl
        obtain ⟨ad, A1, d1, A2, d2, rfl, x0, x1, x2, g2'⟩ := fu_first (HS.C 3 rfl) (by decide)
        rw [f2] at g2' x2
        obtain ⟨bd, A4, d4, A5, d5, A6, d6, rfl, y0, y4, y5, y6, g4', g5', g6', y1, y2, y3⟩ := st_first g2' (Nat.lt_succ_self 0)
        replace x2 : w.cell? ⟨ad.block, ad.off + 2, none⟩ = some (.slice (some bd) 1 d2) := x2
        clear x0 x1 g2' g4' g5'
        go_upto_region 14 with ((with_reducible refine gate_load (ty := 34) (p := 8) rfl ?_); go_must (refine ev_load HS 0 rfl rfl 34 (.tmp 8) rfl (N := 31) rfl rfl _ Tryd.underlying34 rfl (by kernel_rfl) ?_))
        have HBW := Aside0.mk (HS.old 4 rfl)
        obtain ⟨w1, hw1⟩ : ∃ x, x = w := ⟨_, rfl⟩
        rw [← hw1] at HBW g6'
        have HC6 := Aside0.mk g6'
        clear HS
        have HS := Sat.start w
        rw [← hw1] at HS
        have HS : Sat w1 w [old w1] := by rw [hw1] at HS ⊢; exact HS
        clear hw1 g6'
        go_upto_region 15 with (first | ((with_reducible refine gate_dst (N := 9) rfl ?_); go_must (refine ev_box HS rfl (N := 9) rfl (cs := #[.int .i64 0, .int .i64 0, .int .i64 0, .string ⟨#[]⟩, .slice none 0 0, .slice none 0 0, .slice none 0 0]) (t := 45) ?hrun ?_); (case hrun => first | (go_simp; done) | (go_simp; rfl)); clear HS; intro g9 w HS) | ((with_reducible refine gate_store (t := 45) (p := 9) rfl ?_); go_must (refine ev_store HS 0 rfl rfl 45 (.tmp 9) (.tmp 49) rfl rfl rfl [.int .i64 s.f0, .int .i64 s.f1.f0, .int .i64 s.f1.f1, .string s.f2, .slice A4 s.f3.length d4, .slice A5 s.f4.length d5, .slice A6 s.f5.length d6] ?hx (by kernel_rfl) (by rfl) ?h1 ?_); (case hx => first | rfl | (go_simp; done)); (case h1 => simp [Value.oneCell']); clear HS; intro w HS))
        clear cb x2 y0 y1 y2 y3 y4 y5 y6 c1_ c2_ f2
        go_wp2
        go_loopg [10] 65 (fun kq v10 w' => ∃ (q : Nat) (t : ST) (c : Int) (B4 B5 B6 : Option Addr) (b4 b5 b6 : Nat), v10 = .int .i64 (q : Int) ∧ Aside0 (q ≤ i ∧ 64 < kq + q) ∧ Aside0 (zS t = chSt false (i - q) c) ∧ Aside0 (Kd.C k45 w1 B6 t.f5.length t.f5) ∧ Aside0 (Sat w1 w' [blk g9 45 #[.int .i64 t.f0, .int .i64 t.f1.f0, .int .i64 t.f1.f1, .string t.f2, .slice B4 t.f3.length b4, .slice B5 t.f4.length b5, .slice B6 t.f5.length b6], old w1]))
        case atStart => exact ⟨0, s, 0, A4, A5, A6, d4, d5, d6, rfl, ⟨by omega, by have := HPN.out; omega⟩, ⟨hz⟩, HC6, ⟨HS⟩⟩
        case round =>
          clear HS hz HC6
          obtain ⟨q, t, c, B4, B5, B6, b4, b5, b6, rfl, HI, HZ, HC, HS'⟩ := hrel
          have HS := HS'.out
          clear HS'
          cases gk with
          | zero => have := HI.out; have := HPN.out; omega
          | succ k2 =>
            obtain ⟨z0, z3, z4, zq⟩ := ch_facts HZ.out
            clear zq
            have hzz := HZ.out
            have hNi : N = (i : Int) := HPN.out.1
            obtain ⟨Q, hQ⟩ : ∃ I : Int, I = (q : Int) := ⟨_, rfl⟩
            have HQE := Aside0.mk hQ
            rw [← hQ]
            have c1_ : decide (Q ≤ N) = true := decide_eq_true (by have := HI.out; omega)
            have c2_ : (Q ≤ N) = True := eq_true (by have := HI.out; omega)
            rw [z0, z3, z4] at HS
            by_cases hq : q < i
            · obtain ⟨r, hr⟩ : ∃ r, i - q = r + 1 := ⟨i - q - 1, by omega⟩
              rw [hr] at hzz
              have z5 := (ch_facts hzz).2.2.2
              obtain ⟨t', ht', hz'⟩ := z5
              have HC' := HC.out
              rw [ht'] at HC' HS
              obtain ⟨ed, E4, e4, E5, e5, E6, e6, rfl, u0, u4, u5, u6, _, _, h6', u1, u2, u3⟩ := st_first HC' (Nat.lt_succ_self 0)
              have c3_ : (Q == N) = false := beq_eq_false_iff_ne.2 (by omega)
              have hwi : wrap64 (Q + 1) = Q + 1 := w64 _ (by omega) (by have := HPN.out; omega)
              have HQ2 := Aside0.mk hq
              have HR := Aside0.mk (show i - (q + 1) = r from by omega)
              have HZ' := Aside0.mk hz'
              have H6' := Aside0.mk h6'
              have HB := HS.old 1 rfl
              have v0 := cell_below u0 HB
              have v1 := cell_below u1 HB
              have v2 := cell_below u2 HB
              have v3 := cell_below u3 HB
              have v4 := cell_below u4 HB
              have v5 := cell_below u5 HB
              have v6 := cell_below u6 HB
              have cb := HS.cell 0 rfl
              clear hq hr hz' h6' HC' hQ u0 u1 u2 u3 u4 u5 u6 HB z0 z3 z4 HZ HC hNi ht' hzz
              go_wp2_with ((with_reducible refine gate_store (t := 45) (p := 9) rfl ?_); go_must (refine ev_store HS 0 rfl rfl 45 (.tmp 9) (.tmp 80) rfl rfl rfl [.int .i64 t'.f0, .int .i64 t'.f1.f0, .int .i64 t'.f1.f1, .string t'.f2, .slice E4 t'.f3.length e4, .slice E5 t'.f4.length e5, .slice E6 t'.f5.length e6] ?hx (by kernel_rfl) (by rfl) ?h1 ?_); (case hx => first | rfl | (go_simp; done)); (case h1 => simp [Value.oneCell']); clear HS; intro w HS)
              go_roundg k2
              case measure => exact Nat.lt_succ_self _
              case rel => exact ⟨q + 1, t', 1, E4, E5, E6, e4, e5, e6, by first | (rw [hwi, HQE.out]; rfl) | (rw [HQE.out]; rfl), ⟨by have := HQ2.out; omega, by have := HI.out; omega⟩, ⟨by rw [HR.out]; exact HZ'.out⟩, H6', ⟨HS⟩⟩
            · have hqi : q = i := by have := HI.out; omega
              rw [show i - q = 0 from by omega] at hzz
              have z5 := (ch_facts hzz).2.2.2
              have c3_ : (Q == N) = true := by rw [hQ, hqi, hNi]; simp
              clear hq hQ hqi hNi
              have z5' : t.f5 = [] := z5
              rw [z5'] at HS
              have cb := HS.cell 0 rfl
              clear z0 z3 z4 z5 z5' HZ HC hzz
              go_wp2
              go_ret
              exact ⟨rfl, below_step HBW.out (HS.old 1 rfl)⟩
set_option maxRecDepth 100000 in
set_option maxHeartbeats 8000000 in
theorem chains_true (n : Int) (W : World) (hL : laidMetH Tryd.prog astLaid W) :
    Calls Tryd.prog 5 #[.int .i64 n, .bool true] W fun e W' => e = .returned (.bool true) ∧ Below W.heap.size W W' := by
  have hG := of_laid hL
  have HS := Sat.start W
  obtain ⟨p, hp, hP'⟩ : ∃ p : Nat, p < 64 ∧ Go.bits .and .i64 n 63 = (p : Int) := ⟨(n % 64).toNat, by omega, by rw [and63]; omega⟩
  obtain ⟨N, hPe⟩ : ∃ P : Int, P = (p : Int) := ⟨_, rfl⟩
  have hN : Go.bits .and .i64 n 63 = N := by rw [hPe]; exact hP'
  have HPN := Aside0.mk (show N = (p : Int) ∧ p < 64 from ⟨hPe, hp⟩)
  clear hP' hPe hp
  have HPC := Aside0.mk (fun (w : World) (T : List UInt8) (hT : T = chainT p true) (HS : Sat W w [old W]) => chain_calls hG ⟨0, rfl⟩ HS p true (by have := HPN.out; omega) T hT)
  go_enter Tryd.func5, Tryd.ntmps5
  go_upto_region 3 with (go_at_call 9; refine (head_calls hG ⟨0, rfl⟩ HS).mono ?_; rintro e_ w_ ⟨rfl, HS_⟩; clear HS; have HS := HS_; clear HS_)
  go_wp2
  go_loopg [5, 6] 65 (fun kq v5 v6 w' => ∃ (i : Nat), v5 = .string (bs (chT0 ++ rep i chT1)) ∧ v6 = .int .i64 ((i : Int) + 1) ∧ Aside0 (i ≤ p ∧ 64 < kq + i) ∧ Aside0 (w' = w_))
  case atStart => exact ⟨0, rfl, rfl, ⟨by omega, by omega⟩, ⟨rfl⟩⟩
  case round =>
    obtain ⟨i, rfl, rfl, HI, HW⟩ := hrel
    obtain rfl := HW.out
    clear HW
    cases gk with
    | zero => have := HI.out; have := HPN.out; omega
    | succ k1 =>
      obtain ⟨I, hI⟩ : ∃ I : Int, I = (i : Int) + 1 := ⟨_, rfl⟩
      have HIE := Aside0.mk hI
      rw [← hI]
      by_cases hi : i < p
      · have c1_ : decide (I ≤ N) = true := decide_eq_true (by have := HPN.out; omega)
        have c2_ : (I ≤ N) = True := eq_true (by have := HPN.out; omega)
        have hwi : wrap64 (I + 1) = I + 1 := w64 _ (by have := HPN.out; omega) (by have := HPN.out; omega)
        have hlo := Aside0.mk (show (chT0 ++ rep i chT1).length ≤ 2000 from by rw [List.length_append, rep_len]; have := HPN.out; have : i * chT1.length ≤ 64 * 26 := Nat.mul_le_mul (by omega) (by decide); have : chT0.length = 31 := rfl; omega)
        have HII := Aside0.mk hi
        have HH := Aside0.mk (show chT0 ++ rep (i + 1) chT1 = (chT0 ++ rep i chT1) ++ [32, 101, 108, 115, 101, 32, 105, 102, 32, 97, 32, 61, 61, 32, 49, 32, 123, 32, 120, 32, 61, 32, 49, 59, 32, 125] from by rw [rep_snoc, List.append_assoc]; rfl)
        obtain ⟨X, hX⟩ : ∃ X, X = chT0 ++ rep i chT1 := ⟨_, rfl⟩
        rw [← hX] at hlo HH ⊢
        clear hi hI hX
        go_wp2_with (((with_reducible refine gate_dst (N := 21) rfl ?_); go_must (refine ev_cat (p := _) (q := [32, 101, 108, 115, 101, 32, 105, 102, 32, 97, 32, 61, 61, 32, 49, 32, 123, 32, 120, 32, 61, 32, 49, 59, 32, 125]) Tryd.underlying9 rfl rfl rfl rfl rfl (by have := hlo.out; (try simp only [List.length_append, List.length_cons, List.length_nil]); omega) ?_)))
        go_roundg k1
        case measure => exact Nat.lt_succ_self _
        case rel => exact ⟨i + 1, by rw [HH.out], by first | (rw [hwi, HIE.out]; rfl) | (rw [HIE.out]; rfl), ⟨by have := HII.out; omega, by have := HI.out; omega⟩, ⟨rfl⟩⟩
      · have hip : i = p := by have := HI.out; omega
        subst hip
        have c1_ : decide (I ≤ N) = false := decide_eq_false (by have := HPN.out; omega)
        have c2_ : (I ≤ N) = False := eq_false (by have := HPN.out; omega)
        have hlo := Aside0.mk (show (chT0 ++ rep i chT1).length ≤ 2000 from by rw [List.length_append, rep_len]; have := HPN.out; have : i * chT1.length ≤ 64 * 26 := Nat.mul_le_mul (by omega) (by decide); have : chT0.length = 31 := rfl; omega)
        have HCT := Aside0.mk (show chainT i true = (chT0 ++ rep i chT1) ++ [32, 101, 108, 115, 101, 32, 123, 32, 120, 32, 61, 32, 50, 59, 32, 125] ++ [32, 125] from rfl)
        obtain ⟨X, hX⟩ : ∃ X, X = chT0 ++ rep i chT1 := ⟨_, rfl⟩
        rw [← hX] at hlo HCT ⊢
        rw [HCT.out] at HPC
        clear hi hI hX
        go_upto_region 12 with (first | ((with_reducible refine gate_dst (N := 24) rfl ?_); go_must (refine ev_cat (p := _) (q := [32, 101, 108, 115, 101, 32, 123, 32, 120, 32, 61, 32, 50, 59, 32, 125]) Tryd.underlying9 rfl rfl rfl rfl rfl (by have := hlo.out; (try simp only [List.length_append, List.length_cons, List.length_nil]); omega) ?_)) | ((with_reducible refine gate_dst (N := 27) rfl ?_); go_must (refine ev_cat (p := _) (q := [32, 125]) Tryd.underlying9 rfl rfl rfl rfl rfl (by have := hlo.out; (try simp only [List.length_append, List.length_cons, List.length_nil]); omega) ?_)) | (go_at_call 10; go_must (refine (HPC.out _ _ (by simp only [List.append_assoc, List.cons_append, List.nil_append]) HS).mono ?_); rintro e_ w_ ⟨A, B, a, b, f, s, rfl, hfs, HS_⟩; clear HS; have HS := HS_; clear HS_) | ((with_reducible refine gate_dst (N := 7) rfl ?_); go_must (refine ev_box HS rfl (N := 7) rfl (cs := #[.slice none 0 0, .slice none 0 0]) (t := 30) ?hrun ?_); (case hrun => first | (go_simp; done) | (go_simp; rfl)); clear HS; intro g7 w HS) | ((with_reducible refine gate_dst (N := 8) rfl ?_); go_must (refine ev_box HS rfl (N := 8) rfl (cs := #[.int .i64 0, .int .i64 0, .int .i64 0]) (t := 34) ?hrun ?_); (case hrun => first | (go_simp; done) | (go_simp; rfl)); clear HS; intro g8 w HS) | ((with_reducible refine gate_store (t := 30) (p := 7) rfl ?_); go_must (refine ev_store HS 1 rfl rfl 30 (.tmp 7) (.tmp 29) rfl rfl rfl [.slice A 0 a, .slice B 1 b] ?hx (by kernel_rfl) (by rfl) ?h1 ?_); (case hx => first | rfl | (go_simp; done)); (case h1 => simp [Value.oneCell']); clear HS; intro w HS) | ((with_reducible refine gate_store (t := 34) (p := 8) rfl ?_); go_must (refine ev_store HS 0 rfl rfl 34 (.tmp 8) (.tmp 30) rfl rfl rfl [.int .i64 0, .int .i64 0, .int .i64 0] ?hx (by kernel_rfl) (by rfl) ?h1 ?_); (case hx => first | rfl | (go_simp; done)); (case h1 => simp [Value.oneCell']); clear HS; intro w HS))
        obtain ⟨f2, hz⟩ := hfs
        have cb := HS.cell 1 rfl
        obtain ⟨ad, A1, d1, A2, d2, rfl, x0, x1, x2, g2'⟩ := fu_first (HS.C 3 rfl) (by decide)
        rw [f2] at g2' x2
        obtain ⟨bd, A4, d4, A5, d5, A6, d6, rfl, y0, y4, y5, y6, g4', g5', g6', y1, y2, y3⟩ := st_first g2' (Nat.lt_succ_self 0)
        replace x2 : w.cell? ⟨ad.block, ad.off + 2, none⟩ = some (.slice (some bd) 1 d2) := x2
        clear x0 x1 g2' g4' g5'
        go_upto_region 14 with ((with_reducible refine gate_load (ty := 34) (p := 8) rfl ?_); go_must (refine ev_load HS 0 rfl rfl 34 (.tmp 8) rfl (N := 31) rfl rfl _ Tryd.underlying34 rfl (by kernel_rfl) ?_))
        have HBW := Aside0.mk (HS.old 4 rfl)
        obtain ⟨w1, hw1⟩ : ∃ x, x = w := ⟨_, rfl⟩
        rw [← hw1] at HBW g6'
        have HC6 := Aside0.mk g6'
        clear HS
        have HS := Sat.start w
        rw [← hw1] at HS
        have HS : Sat w1 w [old w1] := by rw [hw1] at HS ⊢; exact HS
        clear hw1 g6'
        go_upto_region 15 with (first | ((with_reducible refine gate_dst (N := 9) rfl ?_); go_must (refine ev_box HS rfl (N := 9) rfl (cs := #[.int .i64 0, .int .i64 0, .int .i64 0, .string ⟨#[]⟩, .slice none 0 0, .slice none 0 0, .slice none 0 0]) (t := 45) ?hrun ?_); (case hrun => first | (go_simp; done) | (go_simp; rfl)); clear HS; intro g9 w HS) | ((with_reducible refine gate_store (t := 45) (p := 9) rfl ?_); go_must (refine ev_store HS 0 rfl rfl 45 (.tmp 9) (.tmp 49) rfl rfl rfl [.int .i64 s.f0, .int .i64 s.f1.f0, .int .i64 s.f1.f1, .string s.f2, .slice A4 s.f3.length d4, .slice A5 s.f4.length d5, .slice A6 s.f5.length d6] ?hx (by kernel_rfl) (by rfl) ?h1 ?_); (case hx => first | rfl | (go_simp; done)); (case h1 => simp [Value.oneCell']); clear HS; intro w HS))
        clear cb x2 y0 y1 y2 y3 y4 y5 y6 c1_ c2_ f2
        go_wp2
        go_loopg [10] 65 (fun kq v10 w' => ∃ (q : Nat) (t : ST) (c : Int) (B4 B5 B6 : Option Addr) (b4 b5 b6 : Nat), v10 = .int .i64 (q : Int) ∧ Aside0 (q ≤ i ∧ 64 < kq + q) ∧ Aside0 (zS t = chSt true (i - q) c) ∧ Aside0 (Kd.C k45 w1 B6 t.f5.length t.f5) ∧ Aside0 (Sat w1 w' [blk g9 45 #[.int .i64 t.f0, .int .i64 t.f1.f0, .int .i64 t.f1.f1, .string t.f2, .slice B4 t.f3.length b4, .slice B5 t.f4.length b5, .slice B6 t.f5.length b6], old w1]))
        case atStart => exact ⟨0, s, 0, A4, A5, A6, d4, d5, d6, rfl, ⟨by omega, by have := HPN.out; omega⟩, ⟨hz⟩, HC6, ⟨HS⟩⟩
        case round =>
          clear HS hz HC6
          obtain ⟨q, t, c, B4, B5, B6, b4, b5, b6, rfl, HI, HZ, HC, HS'⟩ := hrel
          have HS := HS'.out
          clear HS'
          cases gk with
          | zero => have := HI.out; have := HPN.out; omega
          | succ k2 =>
            obtain ⟨z0, z3, z4, zq⟩ := ch_facts HZ.out
            clear zq
            have hzz := HZ.out
            have hNi : N = (i : Int) := HPN.out.1
            obtain ⟨Q, hQ⟩ : ∃ I : Int, I = (q : Int) := ⟨_, rfl⟩
            have HQE := Aside0.mk hQ
            rw [← hQ]
            have c1_ : decide (Q ≤ N) = true := decide_eq_true (by have := HI.out; omega)
            have c2_ : (Q ≤ N) = True := eq_true (by have := HI.out; omega)
            rw [z0, z3, z4] at HS
            by_cases hq : q < i
            · obtain ⟨r, hr⟩ : ∃ r, i - q = r + 1 := ⟨i - q - 1, by omega⟩
              rw [hr] at hzz
              have z5 := (ch_facts hzz).2.2.2
              obtain ⟨t', ht', hz'⟩ := z5
              have HC' := HC.out
              rw [ht'] at HC' HS
              obtain ⟨ed, E4, e4, E5, e5, E6, e6, rfl, u0, u4, u5, u6, _, _, h6', u1, u2, u3⟩ := st_first HC' (Nat.lt_succ_self 0)
              have c3_ : (Q == N) = false := beq_eq_false_iff_ne.2 (by omega)
              have hwi : wrap64 (Q + 1) = Q + 1 := w64 _ (by omega) (by have := HPN.out; omega)
              have HQ2 := Aside0.mk hq
              have HR := Aside0.mk (show i - (q + 1) = r from by omega)
              have HZ' := Aside0.mk hz'
              have H6' := Aside0.mk h6'
              have HB := HS.old 1 rfl
              have v0 := cell_below u0 HB
              have v1 := cell_below u1 HB
              have v2 := cell_below u2 HB
              have v3 := cell_below u3 HB
              have v4 := cell_below u4 HB
              have v5 := cell_below u5 HB
              have v6 := cell_below u6 HB
              have cb := HS.cell 0 rfl
              clear hq hr hz' h6' HC' hQ u0 u1 u2 u3 u4 u5 u6 HB z0 z3 z4 HZ HC hNi ht' hzz
              go_wp2_with ((with_reducible refine gate_store (t := 45) (p := 9) rfl ?_); go_must (refine ev_store HS 0 rfl rfl 45 (.tmp 9) (.tmp 80) rfl rfl rfl [.int .i64 t'.f0, .int .i64 t'.f1.f0, .int .i64 t'.f1.f1, .string t'.f2, .slice E4 t'.f3.length e4, .slice E5 t'.f4.length e5, .slice E6 t'.f5.length e6] ?hx (by kernel_rfl) (by rfl) ?h1 ?_); (case hx => first | rfl | (go_simp; done)); (case h1 => simp [Value.oneCell']); clear HS; intro w HS)
              go_roundg k2
              case measure => exact Nat.lt_succ_self _
              case rel => exact ⟨q + 1, t', 1, E4, E5, E6, e4, e5, e6, by first | (rw [hwi, HQE.out]; rfl) | (rw [HQE.out]; rfl), ⟨by have := HQ2.out; omega, by have := HI.out; omega⟩, ⟨by rw [HR.out]; exact HZ'.out⟩, H6', ⟨HS⟩⟩
            · have hqi : q = i := by have := HI.out; omega
              rw [show i - q = 0 from by omega] at hzz
              have z5 := (ch_facts hzz).2.2.2
              have c3_ : (Q == N) = true := by rw [hQ, hqi, hNi]; simp
              clear hq hQ hqi hNi
              obtain ⟨t', ht', h2'⟩ := z5
              have HC' := HC.out
              rw [ht'] at HC' HS
              obtain ⟨ed, E4, e4, E5, e5, E6, e6, rfl, u0, u4, u5, u6, _, _, h6', u1, u2, u3⟩ := st_first HC' (Nat.lt_succ_self 0)
              rw [h2'] at u0
              have v0 := cell_below u0 (HS.old 1 rfl)
              have cb := HS.cell 0 rfl
              clear u0 u1 u2 u3 u4 u5 u6 h6' HC' ht' h2' z0 z3 z4 HZ HC hzz
              go_wp2
              go_ret
              exact ⟨rfl, below_step HBW.out (HS.old 1 rfl)⟩
theorem chains_walk (n : Int) (last : Bool) (W : World) (_ : (Lit.int .i64 n).wf = true) (hL : laidMetH Tryd.prog astLaid W) :
    Calls Tryd.prog 5 #[.int .i64 n, .bool last] W fun e W' => e = .returned (.bool true) ∧ Below W.heap.size W W' := by
  cases last with
  | false => exact chains_false n W hL
  | true => exact chains_true n W hL
end Go.Proofs.YtenkganofobioaaDoor.B
