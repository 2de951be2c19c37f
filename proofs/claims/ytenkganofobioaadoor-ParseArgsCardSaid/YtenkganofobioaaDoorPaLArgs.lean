/- ParseArgs: as many arguments, parameters, globals as one likes, with commas between. -/
import Derived.Test.YtenkganofobioaaDoorPaName
namespace Go.Proofs.YtenkganofobioaaDoor.B
open Go.RowKit Go.Proofs.YtenkganofobioaaDoor.Mine Go.Proofs.YtenkganofobioaaDoor.Sep Go.Proofs.YtenkganofobioaaDoorW.PrintWords Go.Proofs.YtenkganofobioaaDoorW.PrintLast Go.Proofs.YtenkganofobioaaDoorW.PrintMore
set_option linter.unusedVariables false
set_option linter.unusedSimpArgs false
attribute [local go_sem] Instr.field asAgg
attribute [local go_sem high] eqA34 eqA32
theorem args_calls {W w : World} {L : List Chunk} (hG : GL W) (ho : OldIn W L) (HS : Sat W w L) (n m : Nat) (hn : n ≤ 31) (hm : m ≤ 31) : Calls Tryd.prog 10 #[.string (bs (argsT n m))] w fun e w' => ∃ (A B : Option Addr) (a b : Nat) (gs : List GB) (f : FU) (s : ST) (x : EX), e = .returned (.tuple #[.agg #[.slice A m a, .slice B 1 b], .agg #[.int .i64 0, .int .i64 0, .int .i64 0]]) ∧ (f.f1.length = m ∧ f.f2 = [s] ∧ s.f3 = [x] ∧ x.f5.length = n) ∧ Sat W w' (row k75 75 (.slice A m a) gs :: row k41 41 (.slice B 1 b) [f] :: L) := by
  obtain ⟨gs, f, s, x, q, q1, q2, q3, q4, q5⟩ := args_parse n m hn hm
  refine (program_calls hG ho _ 900 _ q HS).mono ?_
  rintro e w' ⟨A, B, a', b', h1, h2⟩
  subst q1
  exact ⟨A, B, a', b', gs, f, s, x, h1, ⟨q2, q3, q4, q5⟩, h2⟩
set_option maxRecDepth 100000 in
set_option maxHeartbeats 8000000 in
theorem args_law (n m : Int) (W : World) (_ : (Lit.int .i64 n).wf = true) (_ : (Lit.int .i64 m).wf = true) (hL : laidMetH Tryd.prog astLaid W) :
    Calls Tryd.prog 6 #[.int .i64 n, .int .i64 m] W fun e W' => e = .returned (.bool true) ∧ Below W.heap.size W W' := by
  have hG := of_laid hL
  have HS := Sat.start W
  obtain ⟨p, hp, hP'⟩ : ∃ p : Nat, p < 32 ∧ Go.bits .and .i64 n 31 = (p : Int) := ⟨(n % 32).toNat, by omega, by rw [and31]; omega⟩
  obtain ⟨N, hPe⟩ : ∃ P : Int, P = (p : Int) := ⟨_, rfl⟩
  have hN : Go.bits .and .i64 n 31 = N := by rw [hPe]; exact hP'
  have HPN := Aside0.mk (show N = (p : Int) ∧ p < 32 from ⟨hPe, hp⟩)
  clear hP' hPe hp
  obtain ⟨q, hq, hQ'⟩ : ∃ p : Nat, p < 32 ∧ Go.bits .and .i64 m 31 = (p : Int) := ⟨(m % 32).toNat, by omega, by rw [and31]; omega⟩
  obtain ⟨M, hQe⟩ : ∃ P : Int, P = (q : Int) := ⟨_, rfl⟩
  have hM : Go.bits .and .i64 m 31 = M := by rw [hQe]; exact hQ'
  have HQN := Aside0.mk (show M = (q : Int) ∧ q < 32 from ⟨hQe, hq⟩)
  clear hQ' hQe hq
  have HPC := Aside0.mk (fun (w : World) (T : List UInt8) (hT : T = argsT p q) (HS : Sat W w [old W]) => by have := args_calls hG ⟨0, rfl⟩ HS p q (by have := HPN.out; omega) (by have := HQN.out; omega); rw [← hT] at this; exact this)
  go_enter Tryd.func6, Tryd.ntmps6
  go_upto_region 3 with (go_at_call 9; refine (head_calls hG ⟨0, rfl⟩ HS).mono ?_; rintro e_ w_ ⟨rfl, HS_⟩; clear HS; have HS := HS_; clear HS_)
  go_wp2
  go_loopg [5, 6] 33 (fun kq v5 v6 w' => ∃ (i : Nat), v5 = .string (bs (argB i)) ∧ v6 = .int .i64 (i : Int) ∧ Aside0 (i ≤ p ∧ 32 < kq + i) ∧ Aside0 (w' = w_))
  case atStart => exact ⟨0, rfl, rfl, ⟨by omega, by omega⟩, ⟨rfl⟩⟩
  case round =>
    obtain ⟨i, rfl, rfl, HI, HW⟩ := hrel
    obtain rfl := HW.out
    clear HW
    cases gk with
    | zero => have := HI.out; have := HPN.out; omega
    | succ k1 =>
      by_cases hi : i < p
      · obtain ⟨I, hI⟩ : ∃ I : Int, I = (i : Int) := ⟨_, rfl⟩
        have HIE := Aside0.mk hI
        rw [← hI]
        have c1_ : decide (I < N) = true := decide_eq_true (by have := HPN.out; omega)
        have hwi : wrap64 (I + 1) = I + 1 := w64 _ (by have := HPN.out; omega) (by have := HPN.out; omega)
        have hlo := Aside0.mk (show (argB i).length ≤ 64 from by have := arg_len i; have := HPN.out; omega)
        have HII := Aside0.mk hi
        by_cases h0 : 0 < i
        · have c2_ : decide (0 < I) = true := decide_eq_true (by omega)
          have HH := Aside0.mk (show argB (i + 1) = argB i ++ [44] ++ [49] from by rw [argB, if_pos h0])
          clear hi hI h0
          go_wp2_with (first | ((with_reducible refine gate_dst (N := 26) rfl ?_); go_must (refine ev_cat (p := argB i) (q := [44]) Tryd.underlying9 rfl rfl rfl rfl rfl (by have := hlo.out; simp only [List.length_cons, List.length_nil]; omega) ?_)) | ((with_reducible refine gate_dst (N := 28) rfl ?_); go_must (refine ev_cat (p := argB i ++ [44]) (q := [49]) Tryd.underlying9 rfl rfl rfl rfl rfl (by have := hlo.out; simp only [List.length_append, List.length_cons, List.length_nil]; omega) ?_)))
          go_roundg k1
          case measure => exact Nat.lt_succ_self _
          case rel => exact ⟨i + 1, by rw [HH.out, List.append_assoc]; rfl, by first | (rw [hwi, HIE.out]; rfl) | (rw [HIE.out]; rfl), ⟨by have := HII.out; omega, by have := HI.out; omega⟩, ⟨rfl⟩⟩
        · have c2_ : decide (0 < I) = false := decide_eq_false (by omega)
          have HH := Aside0.mk (show argB (i + 1) = argB i ++ [49] from by rw [argB, if_neg h0])
          clear hi hI h0
          go_wp2_with (((with_reducible refine gate_dst (N := 28) rfl ?_); go_must (refine ev_cat (p := argB i) (q := [49]) Tryd.underlying9 rfl rfl rfl rfl rfl (by have := hlo.out; simp only [List.length_cons, List.length_nil]; omega) ?_)))
          go_roundg k1
          case measure => exact Nat.lt_succ_self _
          case rel => exact ⟨i + 1, by rw [HH.out], by first | (rw [hwi, HIE.out]; rfl) | (rw [HIE.out]; rfl), ⟨by have := HII.out; omega, by have := HI.out; omega⟩, ⟨rfl⟩⟩
      · have hip : i = p := by have := HI.out; omega
        subst hip
        have HPI := Aside0.mk (show N = (i : Int) from HPN.out.1)
        rw [← HPI.out]
        have c1_ : decide (N < N) = false := decide_eq_false (by omega)
        have hla := Aside0.mk (show (argB i).length ≤ 64 from by have := arg_len i; have := HPN.out; omega)
        unfold argsT at HPC
        obtain ⟨X, hX⟩ : ∃ X, X = argB i := ⟨_, rfl⟩
        rw [← hX] at hla HPC ⊢
        clear hX hi c1_
        have c1_ : (N < N) = False := eq_false (by omega)
        go_wp2
        go_loopg [7, 8, 9] 33 (fun kq v7 v8 v9 w' => ∃ (i : Nat), v7 = .string (bs (parB i)) ∧ v8 = .string (bs (gloB i)) ∧ v9 = .int .i64 (i : Int) ∧ Aside0 (i ≤ q ∧ 32 < kq + i) ∧ Aside0 (Sat W w' [old W]))
        case atStart => exact ⟨0, rfl, rfl, rfl, ⟨by omega, by omega⟩, ⟨HS⟩⟩
        case round =>
          clear HS
          obtain ⟨i2, rfl, rfl, rfl, HI2, HS'⟩ := hrel
          have HS := HS'.out
          clear HS'
          cases gk with
          | zero => have := HI2.out; have := HQN.out; omega
          | succ k2 =>
            by_cases hi : i2 < q
            · obtain ⟨I, hI⟩ : ∃ I : Int, I = (i2 : Int) := ⟨_, rfl⟩
              have HIE := Aside0.mk hI
              rw [← hI]
              have c3_ : decide (I < M) = true := decide_eq_true (by have := HQN.out; omega)
              have hwi : wrap64 (I + 1) = I + 1 := w64 _ (by have := HQN.out; omega) (by have := HQN.out; omega)
              have hlo := Aside0.mk (show (parB i2).length ≤ 128 ∧ (gloB i2).length ≤ 320 ∧ (nmB i2).length = 2 from ⟨by have := par_len i2; have := HQN.out; omega, by have := glo_len i2; have := HQN.out; omega, rfl⟩)
              have HNM := Aside0.mk (fun (w : World) => name_calls i2 w)
              rw [← hI] at HNM
              have HG1 := Aside0.mk (show gloB (i2 + 1) = gloB i2 ++ [118, 97, 114, 32] ++ nmB i2 ++ [91, 55, 93, 59] from rfl)
              have HII := Aside0.mk hi
              obtain ⟨z, hz⟩ : ∃ z, z = nmB i2 := ⟨_, rfl⟩
              by_cases h0 : 0 < i2
              · have c2_ : decide (0 < I) = true := decide_eq_true (by omega)
                have HH := Aside0.mk (show parB (i2 + 1) = parB i2 ++ [44, 32] ++ nmB i2 from by rw [parB, if_pos h0])
                rw [← hz] at hlo HNM HG1 HH
                clear hi hI h0 hz
                go_wp2_with (first | ((with_reducible refine gate_dst (N := 37) rfl ?_); go_must (refine ev_cat (p := _) (q := [44, 32]) Tryd.underlying9 rfl rfl rfl rfl rfl (by have := hlo.out; (try simp only [List.length_append, List.length_cons, List.length_nil]); omega) ?_)) | (go_at_call 11; go_must (refine (HNM.out _).mono ?_); rintro e_ w_ ⟨rfl, hb⟩; replace HS := HS.below hb; clear hb) | ((with_reducible refine gate_dst (N := 41) rfl ?_); go_must (refine ev_cat (p := _) (q := _) Tryd.underlying9 rfl rfl rfl rfl rfl (by have := hlo.out; (try simp only [List.length_append, List.length_cons, List.length_nil]); omega) ?_)) | ((with_reducible refine gate_dst (N := 43) rfl ?_); go_must (refine ev_cat (p := _) (q := [118, 97, 114, 32]) Tryd.underlying9 rfl rfl rfl rfl rfl (by have := hlo.out; (try simp only [List.length_append, List.length_cons, List.length_nil]); omega) ?_)) | ((with_reducible refine gate_dst (N := 46) rfl ?_); go_must (refine ev_cat (p := _) (q := _) Tryd.underlying9 rfl rfl rfl rfl rfl (by have := hlo.out; (try simp only [List.length_append, List.length_cons, List.length_nil]); omega) ?_)) | ((with_reducible refine gate_dst (N := 47) rfl ?_); go_must (refine ev_cat (p := _) (q := [91, 55, 93, 59]) Tryd.underlying9 rfl rfl rfl rfl rfl (by have := hlo.out; (try simp only [List.length_append, List.length_cons, List.length_nil]); omega) ?_)))
                go_roundg k2
                case measure => exact Nat.lt_succ_self _
                case rel => exact ⟨i2 + 1, by rw [HH.out]; (try simp only [List.append_assoc, List.cons_append, List.nil_append]), by rw [HG1.out]; (try simp only [List.append_assoc, List.cons_append, List.nil_append]), by first | (rw [hwi, HIE.out]; rfl) | (rw [HIE.out]; rfl), ⟨by have := HII.out; omega, by have := HI2.out; omega⟩, ⟨HS⟩⟩
              · have c2_ : decide (0 < I) = false := decide_eq_false (by omega)
                have HH := Aside0.mk (show parB (i2 + 1) = parB i2 ++ nmB i2 from by rw [parB, if_neg h0])
                rw [← hz] at hlo HNM HG1 HH
                clear hi hI h0 hz
                go_wp2_with (first | (go_at_call 11; go_must (refine (HNM.out _).mono ?_); rintro e_ w_ ⟨rfl, hb⟩; replace HS := HS.below hb; clear hb) | ((with_reducible refine gate_dst (N := 41) rfl ?_); go_must (refine ev_cat (p := _) (q := _) Tryd.underlying9 rfl rfl rfl rfl rfl (by have := hlo.out; (try simp only [List.length_append, List.length_cons, List.length_nil]); omega) ?_)) | ((with_reducible refine gate_dst (N := 43) rfl ?_); go_must (refine ev_cat (p := _) (q := [118, 97, 114, 32]) Tryd.underlying9 rfl rfl rfl rfl rfl (by have := hlo.out; (try simp only [List.length_append, List.length_cons, List.length_nil]); omega) ?_)) | ((with_reducible refine gate_dst (N := 46) rfl ?_); go_must (refine ev_cat (p := _) (q := _) Tryd.underlying9 rfl rfl rfl rfl rfl (by have := hlo.out; (try simp only [List.length_append, List.length_cons, List.length_nil]); omega) ?_)) | ((with_reducible refine gate_dst (N := 47) rfl ?_); go_must (refine ev_cat (p := _) (q := [91, 55, 93, 59]) Tryd.underlying9 rfl rfl rfl rfl rfl (by have := hlo.out; (try simp only [List.length_append, List.length_cons, List.length_nil]); omega) ?_)))
                go_roundg k2
                case measure => exact Nat.lt_succ_self _
                case rel => exact ⟨i2 + 1, by rw [HH.out], by rw [HG1.out]; (try simp only [List.append_assoc, List.cons_append, List.nil_append]), by first | (rw [hwi, HIE.out]; rfl) | (rw [HIE.out]; rfl), ⟨by have := HII.out; omega, by have := HI2.out; omega⟩, ⟨HS⟩⟩
            · have hip2 : i2 = q := by have := HI2.out; omega
              subst hip2
              have HQI := Aside0.mk (show M = (i2 : Int) from HQN.out.1)
              rw [← HQI.out]
              have c3_ : decide (M < M) = false := decide_eq_false (by omega)
              have c4_ : (M < M) = False := eq_false (by omega)
              have hlo := Aside0.mk (show (parB i2).length ≤ 128 ∧ (gloB i2).length ≤ 320 ∧ X.length ≤ 64 from ⟨by have := par_len i2; have := HQN.out; omega, by have := glo_len i2; have := HQN.out; omega, hla.out⟩)
              obtain ⟨Y, hY⟩ : ∃ X, X = parB i2 := ⟨_, rfl⟩
              obtain ⟨Z, hZ⟩ : ∃ X, X = gloB i2 := ⟨_, rfl⟩
              rw [← hY, ← hZ] at hlo HPC ⊢
              clear hY hZ hi
              go_upto_region 22 with (first | ((with_reducible refine gate_dst (N := 50) rfl ?_); go_must (refine ev_cat (p := _) (q := [102, 117, 110, 99, 32, 102, 40]) Tryd.underlying9 rfl rfl rfl rfl rfl (by have := hlo.out; (try simp only [List.length_append, List.length_cons, List.length_nil]); omega) ?_)) | ((with_reducible refine gate_dst (N := 52) rfl ?_); go_must (refine ev_cat (p := _) (q := _) Tryd.underlying9 rfl rfl rfl rfl rfl (by have := hlo.out; (try simp only [List.length_append, List.length_cons, List.length_nil]); omega) ?_)) | ((with_reducible refine gate_dst (N := 53) rfl ?_); go_must (refine ev_cat (p := _) (q := [41, 32, 123, 32, 103, 40]) Tryd.underlying9 rfl rfl rfl rfl rfl (by have := hlo.out; (try simp only [List.length_append, List.length_cons, List.length_nil]); omega) ?_)) | ((with_reducible refine gate_dst (N := 55) rfl ?_); go_must (refine ev_cat (p := _) (q := _) Tryd.underlying9 rfl rfl rfl rfl rfl (by have := hlo.out; (try simp only [List.length_append, List.length_cons, List.length_nil]); omega) ?_)) | ((with_reducible refine gate_dst (N := 56) rfl ?_); go_must (refine ev_cat (p := _) (q := [41, 59, 32, 125]) Tryd.underlying9 rfl rfl rfl rfl rfl (by have := hlo.out; (try simp only [List.length_append, List.length_cons, List.length_nil]); omega) ?_)) | (go_at_call 10; go_must (refine (HPC.out _ _ (by simp only [List.append_assoc, List.cons_append, List.nil_append]) HS).mono ?_); rintro e_ w_ ⟨A, B, a, b, gs, f, s, x, rfl, hfs, HS_⟩; clear HS; have HS := HS_; clear HS_) | ((with_reducible refine gate_dst (N := 10) rfl ?_); go_must (refine ev_box HS rfl (N := 10) rfl (cs := #[.slice none 0 0, .slice none 0 0]) (t := 30) ?hrun ?_); (case hrun => first | (go_simp; done) | (go_simp; rfl)); clear HS; intro g10 w HS) | ((with_reducible refine gate_dst (N := 11) rfl ?_); go_must (refine ev_box HS rfl (N := 11) rfl (cs := #[.int .i64 0, .int .i64 0, .int .i64 0]) (t := 34) ?hrun ?_); (case hrun => first | (go_simp; done) | (go_simp; rfl)); clear HS; intro g11 w HS) | ((with_reducible refine gate_store (t := 30) (p := 10) rfl ?_); go_must (refine ev_store HS 1 rfl rfl 30 (.tmp 10) (.tmp 58) rfl rfl rfl [.slice A i2 a, .slice B 1 b] ?hx (by kernel_rfl) (by rfl) ?h1 ?_); (case hx => first | rfl | (go_simp; done)); (case h1 => simp [Value.oneCell']); clear HS; intro w HS) | ((with_reducible refine gate_store (t := 34) (p := 11) rfl ?_); go_must (refine ev_store HS 0 rfl rfl 34 (.tmp 11) (.tmp 59) rfl rfl rfl [.int .i64 0, .int .i64 0, .int .i64 0] ?hx (by kernel_rfl) (by rfl) ?h1 ?_); (case hx => first | rfl | (go_simp; done)); (case h1 => simp [Value.oneCell']); clear HS; intro w HS))
              have cb := HS.cell 1 rfl
              obtain ⟨f1, f2, f3, f4⟩ := hfs
              obtain ⟨ad, A1, d1, A2, d2, rfl, x0, x1, x2, g2'⟩ := fu_first (HS.C 3 rfl) (by decide)
              rw [f2] at g2' x2
              obtain ⟨bd, A4, d4, A5, d5, A6, d6, rfl, y0, y4, y5, y6, g4', g5', g6', y1, y2, y3⟩ := st_first g2' (Nat.lt_succ_self 0)
              rw [f3] at g4' y4
              obtain ⟨ed, A7, d7, rfl, z0, z1, z2, z3, z4, z5, z6, l7, g7'⟩ := ex_first g4' (Nat.lt_succ_self 0)
              replace x2 : w.cell? ⟨ad.block, ad.off + 2, none⟩ = some (.slice (some bd) 1 d2) := x2
              replace y4 : w.cell? ⟨bd.block, bd.off + 4, none⟩ = some (.slice (some ed) 1 d4) := y4
              rw [f1] at x1
              rw [f4] at z6
              have t1_ : (((i2 : Nat) : Int) == M) = true := by rw [HQI.out]; simp
              have t2_ : (((i : Nat) : Int) == N) = true := by rw [HPI.out]; simp
              clear f1 f2 f3 f4 x0 y0 y5 y6 y1 y2 y3 z0 z1 z2 z3 z4 z5 l7 g2' g4' g5' g6' g7'
              go_wp2_with ((with_reducible refine gate_load (ty := 34) (p := 11) rfl ?_); go_must (refine ev_load HS 0 rfl rfl 34 (.tmp 11) rfl (N := 60) rfl rfl _ Tryd.underlying34 rfl (by kernel_rfl) ?_))
              go_ret
              exact ⟨rfl, HS.old 4 rfl⟩
end Go.Proofs.YtenkganofobioaaDoor.B
