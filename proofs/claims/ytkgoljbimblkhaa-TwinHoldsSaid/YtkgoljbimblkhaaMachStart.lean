/- A memory at the beginning: the contract of (Image).Start, of images that are right. -/
import Derived.Test.YtkgoljbimblkhaaMachMem
import Derived.Test.YtkgoljbimblkhaaSep2
namespace Go.Proofs.Ytkgoljbimblkhaa.B
open Go.RowKit Go.Proofs.Ytkgoljbimblkhaa.Mine Go.Proofs.Ytkgoljbimblkhaa.Sep Go.Proofs.Ytkgoljbimblkhaa.Copy Go.Proofs.YtkgoljbimblkhaaW.PrintWords Go.Proofs.YtkgoljbimblkhaaW.PrintLast Go.Proofs.YtkgoljbimblkhaaW.PrintMore
set_option linter.unusedVariables false
set_option linter.unusedSimpArgs false

theorem w64 (n : Int) (h0 : -9223372036854775808 ≤ n) (h1 : n ≤ 9223372036854775807) : wrap64 n = n := by
  unfold wrap64
  omega
def startL (ins : List (List Int)) : List S60 → List Int → Nat → List Int
  | [], out, _ => out
  | a :: r, out, n => if a.f2 = 0 then startL ins r out n else startL ins r (if n < ins.length then over out a.f0.toNat ((ins.getD n []).take a.f1.toNat) else out) (n + 1)
def startF (ins : List (List Int)) (arrs : List S60) (mem : Int) : List Int := startL ins arrs (List.replicate mem.toNat 0) 0
theorem startL_length (ins : List (List Int)) : ∀ (r : List S60) (out : List Int) (n : Nat), (startL ins r out n).length = out.length
  | [], _, _ => rfl
  | a :: r, out, n => by
    rw [startL]
    split
    · exact startL_length ins r out n
    · rw [startL_length ins r]
      split
      · exact over_length _ _ _
      · rfl
/-- An array lies in memory. -/
structure Lies (mem : Int) (a : S60) : Prop where
  at0 : 0 ≤ a.f0
  sz1 : 1 ≤ a.f1
  sz2 : a.f1 ≤ 4096
  fit : a.f0 + a.f1 ≤ mem
def imgV (Ac : Option Addr) (nc cc : Nat) (Aa : Option Addr) (na ca : Nat) (st mem : Int) : Value := .agg #[.slice Ac nc cc, .slice Aa na ca, .int .i64 st, .int .i64 mem]
theorem info2 : (Try.prog.info? 2).map (fun i => (i.zero, i.size, i.bytes)) = some (some (.int .i64 0), 1, 8) := by kernel_rfl
theorem getD_rd2 (ins : List (List Int)) (n : Nat) : rd_L3 ins (n : Int) = ins.getD n [] := by unfold rd_L3; rw [Int.toNat_natCast]
set_option maxRecDepth 100000 in
set_option maxHeartbeats 2000000 in
theorem start_calls {W0 w : World} {L : List Chunk} {Ac : Option Addr} {nc cc : Nat} {Aa : Option Addr} {ca : Nat} {arrs : List S60} {st mem : Int} {Ai : Option Addr} {ci : Nat} {ins : List (List Int)}
    (hA : ∀ w, Sat W0 w L → Kd.C k60 w Aa arrs.length arrs) (hI : ∀ w, Sat W0 w L → Kd.C (Kd.slice 2 (Kd.int .i64)) w Ai ins.length ins) (hl : ∀ a ∈ arrs, Lies mem a) (hal : arrs.length ≤ 1000) (h0 : 0 ≤ mem) (h1 : mem ≤ 1048576) (HS : Sat W0 w L) :
    Calls Try.prog 18 #[.agg #[.slice Ac nc cc, .slice Aa arrs.length ca, .int .i64 st, .int .i64 mem], .slice Ai ins.length ci] w fun e w' => ∃ A n c, e = .returned (.slice A n c) ∧ Sat W0 w' (row IW 2 (.slice A n c) (startF ins arrs mem) :: L) := by
  go_enter Try.func18, Try.ntmps18
  go_upto_region 1 with ((with_reducible refine gate_dst (N := 2) rfl ?_); go_must (refine ev_box HS rfl (N := 2) rfl (cs := #[.slice Ac nc cc, .slice Aa arrs.length ca, .int .i64 st, .int .i64 mem]) (t := 25) ?hrun ?_); (case hrun => first | (go_simp; done) | (go_simp; rfl)); clear HS; intro gb w HS)
  have cb := HS.cell 0 rfl
  go_upto_region 2 with (first | ((with_reducible refine gate_dst (N := 12) rfl ?_); go_must (refine valueL_ (w1 := w) (v := .int .i64 mem) (some 12) rfl rfl ?hr ?_); (case hr => by_cases hm_ : 0 < mem; all_goals (go_simp; try omega))) | ((with_reducible refine gate_dst (N := 13) rfl ?_); go_must (refine ev_make IW HS rfl (N := 13) rfl 43 (.tmp 12) (.tmp 12) rfl mem rfl rfl Try.underlying43 (.int .i64 0) 8 info2 rfl (by decide) (by omega) 0 rfl h0 (by omega) ?_); clear HS; intro A co w HS))
  obtain ⟨M, hM⟩ : ∃ M, mem.toNat = M := ⟨_, rfl⟩
  rw [hM] at HS ⊢
  have HMM := Aside0.mk hM
  have cb := HS.cell 1 rfl
  clear hM
  go_wp2
  go_loopg [6, 17] (arrs.length + 1) (fun kq v6 v17 w' => ∃ (k n : Nat) (out : List Int), v6 = .int .i64 (n : Int) ∧ v17 = .int .i64 (k : Int) ∧ Aside0 (k ≤ arrs.length ∧ n ≤ k ∧ arrs.length + 1 ≤ kq + k ∧ out.length = M ∧ startL ins (arrs.drop k) out n = startF ins arrs mem) ∧ Aside0 (Sat W0 w' (row IW 2 (.slice A M co) out :: blk gb 25 #[.slice Ac nc cc, .slice Aa arrs.length ca, .int .i64 st, .int .i64 mem] :: L)))
  case atStart => exact ⟨0, 0, _, rfl, rfl, ⟨by omega, by omega, by omega, List.length_replicate, by rw [← HMM.out]; rfl⟩, ⟨HS⟩⟩
  case round =>
    clear HS cb
    obtain ⟨k, n, out, rfl, rfl, HM, HS'⟩ := hrel
    have HS := HS'.out
    clear HS'
    cases gk with
    | zero => have := HM.out; omega
    | succ k1 =>
      by_cases hk : k < arrs.length
      · obtain ⟨K, hK⟩ : ∃ K : Int, (k : Int) = K := ⟨_, rfl⟩
        have p1 : 0 ≤ K := by omega
        have q1 : K < (arrs.length : Int) := by omega
        have c1_ : decide (K < (arrs.length : Int)) = true := decide_eq_true q1
        obtain ⟨ad, e, x0, x1, x2⟩ := at_T60 (hA wr HS.tail.tail) K p1 q1
        subst e
        have hrd : rd_T60 arrs K = arrs[k] := by rw [← hK]; unfold rd_T60; rw [Int.toNat_natCast, List.getD_eq_getElem?_getD, List.getElem?_eq_getElem hk]; rfl
        obtain ⟨l0, l1, l2, l3⟩ := hl _ (List.getElem_mem hk)
        rw [← hrd] at l0 l1 l2 l3
        rw [hK]
        have hdrop : arrs.drop k = rd_T60 arrs K :: arrs.drop (k + 1) := by rw [hrd]; exact List.drop_eq_getElem_cons hk
        have HD := Aside0.mk hdrop
        have HK := Aside0.mk hK
        clear hK hrd hdrop
        replace p1 := eq_true p1
        replace q1 := eq_true q1
        by_cases hh : (rd_T60 arrs K).f2 = 0
        · have hhb : ((rd_T60 arrs K).f2 == 0) = true := beq_iff_eq.mpr hh
          have HH := Aside0.mk hh
          clear hh
          go_upto_region 6 with (first | ((with_reducible refine gate_dst (N := 8) rfl ?_); go_must (refine ev_box HS rfl (N := 8) rfl (cs := #[.int .i64 0, .int .i64 0, .int .i64 0]) (t := 60) ?hrun ?_); (case hrun => first | (go_simp; done) | (go_simp; rfl)); clear HS; intro ga w HS) | ((with_reducible refine gate_store (t := 60) (p := 8) rfl ?_); go_must (refine ev_store HS 0 rfl rfl 60 (.tmp 8) (.tmp 20) rfl rfl rfl [.int .i64 (rd_T60 arrs K).f0, .int .i64 (rd_T60 arrs K).f1, .int .i64 (rd_T60 arrs K).f2] ?hx (by kernel_rfl) (by rfl) ?h1 ?_); (case hx => first | rfl | (go_simp; done)); (case h1 => simp [Value.oneCell']); clear HS; intro w HS))
          have ca := HS.cell 0 rfl
          go_wp2
          go_roundg k1
          case measure => have := HM.out; omega
          case rel =>
            refine ⟨k + 1, n, out, rfl, ?_, ⟨?_⟩, ⟨HS.tail⟩⟩
            · rw [← HK.out, w64 ((k : Int) + 1) (by omega) (by omega)]; rfl
            · obtain ⟨m1, m2, m3, m4, m5⟩ := HM.out
              rw [HD.out, startL, if_pos HH.out] at m5
              exact ⟨by omega, by omega, by omega, m4, m5⟩
        · have hhb : ((rd_T60 arrs K).f2 == 0) = false := beq_eq_false_iff_ne.mpr hh
          have HH := Aside0.mk hh
          clear hh
          obtain ⟨Nn, hN⟩ : ∃ Nn : Int, (n : Int) = Nn := ⟨_, rfl⟩
          rw [hN]
          have HN := Aside0.mk hN
          by_cases hn : n < ins.length
          · have n0 : 0 ≤ Nn := by omega
            have n1 : Nn < (ins.length : Int) := by omega
            have hN2 := Aside0.mk hn
            clear hN hn
            have hnb : decide (Nn < (ins.length : Int)) = true := decide_eq_true n1
            have d0 : decide (0 ≤ (rd_T60 arrs K).f0) = true := decide_eq_true l0
            have d1 : 0 < (rd_T60 arrs K).f1 := by omega
            have hMi : (M : Int) = mem := by have := HMM.out; omega
            have d2 : (rd_T60 arrs K).f0 + (rd_T60 arrs K).f1 ≤ (M : Int) := by omega
            have d2b : decide ((rd_T60 arrs K).f0 + (rd_T60 arrs K).f1 ≤ (M : Int)) = true := decide_eq_true d2
            have d3 : (rd_T60 arrs K).f0 + (rd_T60 arrs K).f1 ≤ 1048576 := by omega
            clear hMi
            go_upto_region 6 with (first | ((with_reducible refine gate_dst (N := 8) rfl ?_); go_must (refine ev_box HS rfl (N := 8) rfl (cs := #[.int .i64 0, .int .i64 0, .int .i64 0]) (t := 60) ?hrun ?_); (case hrun => first | (go_simp; done) | (go_simp; rfl)); clear HS; intro ga w HS) | ((with_reducible refine gate_store (t := 60) (p := 8) rfl ?_); go_must (refine ev_store HS 0 rfl rfl 60 (.tmp 8) (.tmp 20) rfl rfl rfl [.int .i64 (rd_T60 arrs K).f0, .int .i64 (rd_T60 arrs K).f1, .int .i64 (rd_T60 arrs K).f2] ?hx (by kernel_rfl) (by rfl) ?h1 ?_); (case hx => first | rfl | (go_simp; done)); (case h1 => simp [Value.oneCell']); clear HS; intro w HS))
            have ca := HS.cell 0 rfl
            obtain ⟨i0, hi0, _, hsz, _⟩ := info_parts info2
            have hcap := (HS.cap 1 rfl).2
            have hoM : out.length = M := HM.out.2.2.2.1
            have HC := Aside0.mk (cut_mid (P := Try.prog) 43 2 .i64 .i64 Try.underlying43 hi0 1 hsz A M co (rd_T60 arrs K).f0 ((rd_T60 arrs K).f0 + (rd_T60 arrs K).f1) l0 (by omega) d2 (by omega))
            have hcut := HC.out
            have s1 : (0 : Int) ≤ (rd_T60 arrs K).f0 + (rd_T60 arrs K).f1 := by omega
            have s2 : (rd_T60 arrs K).f0 + (rd_T60 arrs K).f1 ≤ (co : Int) := by omega
            have s3 : (rd_T60 arrs K).f0 ≤ max ((rd_T60 arrs K).f0 + (rd_T60 arrs K).f1) 0 := by omega
            have hwr : IntKind.i64.wrap ((rd_T60 arrs K).f0 + (rd_T60 arrs K).f1) = (rd_T60 arrs K).f0 + (rd_T60 arrs K).f1 := by rw [i64_w]; exact w64 _ (by omega) (by omega)
            clear hcap hoM
            obtain ⟨adi, Aw, cw, e, hx, hlw, hCw⟩ := at_L3 (hI w HS.tail.tail.tail) Nn n0 n1
            subst e
            have HCW := Aside0.mk (Kd.C_drew hCw)
            have r1 := eq_true n0
            have r2 := eq_true n1
            clear hCw hlw
            go_wp2
            go_still_tail 14, (by kernel_rfl)
            replace HS := HS.drew
            show wpList _ _ _ _ _ (World.drew w)
            generalize World.drew w = wd at HS HCW ⊢
            clear hwr s3 hcut
            go_wp2_with ((with_reducible refine gate_builtin (b := .copy) (xs := #[.tmp 53, .tmp 57]) rfl ?_); go_must (refine ev_copy HS 1 rfl HCW.out Try.underlying43 (by kernel_rfl) rfl (.tmp 53) (.tmp 57) rfl (rd_T60 arrs K).f0.toNat ((rd_T60 arrs K).f0 + (rd_T60 arrs K).f1).toNat (by omega) ?hhi rfl rfl ?hA ?hn ?_); (case hhi => have := HM.out.2.2.2.1; omega); (case hA => simp); (case hn => rfl); clear HS; intro vv w HS)
            have e1 : ((rd_T60 arrs K).f0 + (rd_T60 arrs K).f1).toNat - (rd_T60 arrs K).f0.toNat = (rd_T60 arrs K).f1.toNat := by omega
            have e2 : rd_L3 ins Nn = ins.getD n [] := by rw [← HN.out]; exact getD_rd2 ins n
            rw [e1, e2] at HS
            clear e1 e2
            go_roundg k1
            case measure => have := HM.out; omega
            case rel =>
              refine ⟨k + 1, n + 1, over out (rd_T60 arrs K).f0.toNat ((ins.getD n []).take (rd_T60 arrs K).f1.toNat), ?_, ?_, ⟨?_⟩, ⟨HS.tail⟩⟩
              · have := HM.out; rw [← HN.out, w64 ((n : Int) + 1) (by omega) (by omega)]; rfl
              · rw [← HK.out, w64 ((k : Int) + 1) (by omega) (by omega)]; rfl
              · obtain ⟨m1, m2, m3, m4, m5⟩ := HM.out
                rw [HD.out, startL, if_neg HH.out, if_pos hN2.out] at m5
                exact ⟨by omega, by omega, by omega, by rw [over_length]; exact m4, m5⟩
          · have hnb : decide (Nn < (ins.length : Int)) = false := decide_eq_false (by omega)
            have hN2 := Aside0.mk hn
            clear hN hn
            go_upto_region 6 with (first | ((with_reducible refine gate_dst (N := 8) rfl ?_); go_must (refine ev_box HS rfl (N := 8) rfl (cs := #[.int .i64 0, .int .i64 0, .int .i64 0]) (t := 60) ?hrun ?_); (case hrun => first | (go_simp; done) | (go_simp; rfl)); clear HS; intro ga w HS) | ((with_reducible refine gate_store (t := 60) (p := 8) rfl ?_); go_must (refine ev_store HS 0 rfl rfl 60 (.tmp 8) (.tmp 20) rfl rfl rfl [.int .i64 (rd_T60 arrs K).f0, .int .i64 (rd_T60 arrs K).f1, .int .i64 (rd_T60 arrs K).f2] ?hx (by kernel_rfl) (by rfl) ?h1 ?_); (case hx => first | rfl | (go_simp; done)); (case h1 => simp [Value.oneCell']); clear HS; intro w HS))
            have ca := HS.cell 0 rfl
            go_wp2
            go_roundg k1
            case measure => have := HM.out; omega
            case rel =>
              refine ⟨k + 1, n + 1, out, ?_, ?_, ⟨?_⟩, ⟨HS.tail⟩⟩
              · have := HM.out; rw [← HN.out, w64 ((n : Int) + 1) (by omega) (by omega)]; rfl
              · rw [← HK.out, w64 ((k : Int) + 1) (by omega) (by omega)]; rfl
              · obtain ⟨m1, m2, m3, m4, m5⟩ := HM.out
                rw [HD.out, startL, if_neg HH.out, if_neg hN2.out] at m5
                exact ⟨by omega, by omega, by omega, m4, m5⟩
      · have hkk : k = arrs.length := by have := HM.out.1; omega
        subst hkk
        have hkb : decide (arrs.length < arrs.length) = false := decide_eq_false (Nat.lt_irrefl _)
        obtain ⟨m1, m2, m3, m4, m5⟩ := HM.out
        rw [List.drop_length, startL] at m5
        have HE := Aside0.mk m5
        clear m1 m2 m3 m4 m5 HM hk
        go_wp2
        go_ret
        exact ⟨A, M, co, rfl, by rw [← HE.out]; exact HS.swap.tail⟩
end Go.Proofs.Ytkgoljbimblkhaa.B
