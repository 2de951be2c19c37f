/- The arrays' words in a memory: the contract of (Image).Words. -/
import Derived.Test.YteabbcnoamhofaaMachStart
namespace Go.Proofs.Yteabbcnoamhofaa.B
open Go.RowKit Go.Proofs.Yteabbcnoamhofaa.Mine Go.Proofs.Yteabbcnoamhofaa.Sep Go.Proofs.Yteabbcnoamhofaa.Copy Go.Proofs.YteabbcnoamhofaaW.PrintWords Go.Proofs.YteabbcnoamhofaaW.PrintLast Go.Proofs.YteabbcnoamhofaaW.PrintMore
set_option linter.unusedVariables false
set_option linter.unusedSimpArgs false
def wordsOf (mem : List Int) (a : S33) : List Int :=
  if a.f0 < (mem.length : Int) then over (List.replicate a.f1.toNat 0) 0 ((mem.drop a.f0.toNat).take a.f1.toNat) else List.replicate a.f1.toNat 0
def wordsF (arrs : List S33) (mem : List Int) : List (List Int) := arrs.map (wordsOf mem)
theorem infoL : (Try.prog.info? 37).map (fun i => (i.zero, i.size, i.bytes)) = some (some (.slice none 0 0), 1, 24) := by kernel_rfl
theorem add_zero_map (A : Option Addr) : A.map (fun x => x.add (0 * 1)) = A := by cases A <;> simp [Addr.add]
set_option maxRecDepth 100000 in
set_option maxHeartbeats 2000000 in
theorem words_calls {W0 w : World} {L : List Chunk} {Ac : Option Addr} {nc cc : Nat} {Aa : Option Addr} {ca : Nat} {arrs : List S33} {st me : Int} {Am : Option Addr} {cm : Nat} {mem : List Int}
    (hA : ∀ w, Sat W0 w L → Kd.C k33 w Aa arrs.length arrs) (hM : ∀ w, Sat W0 w L → IW.C w Am mem.length mem) (hmc : mem.length ≤ cm) (hml : mem.length ≤ 1048576) (hl : ∀ a ∈ arrs, 0 ≤ a.f0 ∧ 1 ≤ a.f1 ∧ a.f1 ≤ 4096) (hal : arrs.length ≤ 1000) (HS : Sat W0 w L) :
    Calls Try.prog 12 #[.agg #[.slice Ac nc cc, .slice Aa arrs.length ca, .int .i64 st, .int .i64 me], .slice Am mem.length cm] w fun e w' => ∃ v, e = .returned v ∧ Sat W0 w' (row (Kd.slice 2 IW) 37 v (wordsF arrs mem) :: L) := by
  go_enter Try.func12, Try.ntmps12
  go_upto_region 1 with ((with_reducible refine gate_dst (N := 2) rfl ?_); go_must (refine ev_box HS rfl (N := 2) rfl (cs := #[.slice Ac nc cc, .slice Aa arrs.length ca, .int .i64 st, .int .i64 me]) (t := 30) ?hrun ?_); (case hrun => first | (go_simp; done) | (go_simp; rfl)); clear HS; intro gb w HS)
  have cb := HS.cell 0 rfl
  replace HS := HS.nil (Kd.slice 2 IW) 37
  go_wp2
  go_loopg [5, 12] (arrs.length + 1) (fun kq v5 v12 w' => ∃ (k : Nat), v12 = .int .i64 (k : Int) ∧ Aside0 (k ≤ arrs.length ∧ arrs.length + 1 ≤ kq + k) ∧ Aside0 (Sat W0 w' (row (Kd.slice 2 IW) 37 v5 (wordsF (arrs.take k) mem) :: blk gb 30 #[.slice Ac nc cc, .slice Aa arrs.length ca, .int .i64 st, .int .i64 me] :: L)))
  case atStart => exact ⟨0, rfl, ⟨by omega, by omega⟩, ⟨HS⟩⟩
  case round =>
    clear HS cb
    obtain ⟨k, rfl, HM, HS'⟩ := hrel
    have HS := HS'.out
    clear HS'
    cases gk with
    | zero => have := HM.out; omega
    | succ k1 =>
      by_cases hk : k < arrs.length
      · obtain ⟨K, hK⟩ : ∃ K : Int, (k : Int) = K := ⟨_, rfl⟩
        have p1 : 0 ≤ K := by omega
        have q1 : K < (arrs.length : Int) := by omega
        have c1_ : decide (K < (arrs.length : Int)) = true := decide_eq_true q1
        obtain ⟨ad, e, x0, x1, x2⟩ := at_T33 (hA wr HS.tail.tail) K p1 q1
        subst e
        have hrd : rd_T33 arrs K = arrs[k] := by rw [← hK]; unfold rd_T33; rw [Int.toNat_natCast, List.getD_eq_getElem?_getD, List.getElem?_eq_getElem hk]; rfl
        obtain ⟨l0, l1, l2⟩ := hl _ (List.getElem_mem hk)
        rw [← hrd] at l0 l1 l2
        rw [hK]
        have HT := Aside0.mk (show arrs.take (k + 1) = arrs.take k ++ [rd_T33 arrs K] by rw [hrd]; exact List.take_succ_eq_append_getElem hk)
        have HK := Aside0.mk hK
        clear hK hrd
        replace p1 := eq_true p1
        replace q1 := eq_true q1
        obtain ⟨r, hr⟩ : ∃ r, r = rd_T33 arrs K := ⟨_, rfl⟩
        rw [← hr] at x0 x1 x2 l0 l1 l2 HT
        clear hr
        obtain ⟨f0, f1, f2⟩ := r
        dsimp only at x0 x1 x2 l0 l1 l2
        have d0 : decide (0 ≤ f0) = true := decide_eq_true l0
        have d1 : 0 < f1 := by omega
        go_upto_region 6 with (first | ((with_reducible refine gate_dst (N := 7) rfl ?_); go_must (refine ev_box HS rfl (N := 7) rfl (cs := #[.int .i64 0, .int .i64 0, .int .i64 0]) (t := 33) ?hrun ?_); (case hrun => first | (go_simp; done) | (go_simp; rfl)); clear HS; intro ga w HS) | (((with_reducible refine gate_store (t := 33) (p := 7) rfl ?_); go_must (refine ev_store HS 0 rfl rfl 33 (.tmp 7) (.tmp 15) rfl rfl rfl [.int .i64 f0, .int .i64 f1, .int .i64 f2] ?hx (by kernel_rfl) (by rfl) ?h1 ?_); (case hx => first | rfl | (go_simp; done)); (case h1 => simp [Value.oneCell']); clear HS; intro w HS); have ca := HS.cell 0 rfl) | ((with_reducible refine gate_dst (N := 19) rfl ?_); go_must (refine valueL_ (w1 := w) (v := .int .i64 f1) (some 19) rfl rfl ?hr ?_); (case hr => go_simp; try omega)) | ((with_reducible refine gate_dst (N := 20) rfl ?_); go_must (refine ev_make IW HS rfl (N := 20) rfl 37 (.tmp 19) (.tmp 19) rfl f1 rfl rfl Try.underlying37 (.int .i64 0) 8 info2 rfl (by decide) (by omega) 0 rfl (by omega) (by omega) ?_); clear HS; intro A co w HS))
        have ca := HS.cell 1 rfl
        have hm1 : ((List.replicate f1.toNat (0 : Int)).length) = f1.toNat := List.length_replicate
        by_cases hf : f0 < (mem.length : Int)
        · have hfb : decide (f0 < (mem.length : Int)) = true := decide_eq_true hf
          have hcap := (HS.cap 0 rfl).2
          obtain ⟨i0, hi0, _, hsz, _⟩ := info_parts info2
          have hcut := cut_from (P := Try.prog) 37 2 .i64 Try.underlying37 hi0 1 hsz Am mem.length cm f0 l0 (by omega)
          have hCM := Kd.C_drop (m := f0.toNat) (c := cm) (hM w HS.tail.tail.tail.tail) (by omega) hmc
          have hlen : (mem.drop f0.toNat).length = mem.length - f0.toNat := List.length_drop
          rw [hlen, if_neg (by omega), show IW.sz = 1 from rfl] at hCM
          simp only [Nat.mul_one] at hCM
          have HCM := Aside0.mk hCM
          clear hCM hlen hcap
          have s1 : f0 ≤ (mem.length : Int) := by omega
          go_upto_region 8 with ((with_reducible refine gate_builtin (b := .copy) (xs := #[.tmp 31, .tmp 35]) rfl ?_); go_must (refine ev_copy HS 0 rfl HCM.out Try.underlying37 (by kernel_rfl) rfl (.tmp 31) (.tmp 35) rfl 0 f1.toNat (by omega) (by rw [List.length_replicate]; omega) rfl rfl ?hA ?hn ?_); (case hA => rw [add_zero_map]; simp); (case hn => rfl); clear HS; intro vv w HS)
          go_wp2_with (first | ((with_reducible refine gate_dst (N := 39) rfl ?_); go_must (refine ev_lit_own HS rfl (N := 39) rfl (e2 := 37) ?hrun ?_); (case hrun => first | (go_simp; done) | (go_simp; rfl)); clear HS; intro gl w HS; replace HS := HS.front 2 rfl) | ((with_reducible refine gate_builtin (b := .append) (xs := #[.tmp 37, .tmp 39]) rfl ?_); go_must (refine ev_append_own (Kd.slice 2 IW) (.tmp 37) (.tmp 39) 35 37 (.slice none 0 0) 24 HS rfl rfl rfl rfl Try.underlying35 infoL rfl (by decide) (by omega) ?hl ?_); (case hl => simp [wordsF]; omega); clear HS; intro v1 w HS))
          go_roundg k1
          case measure => have := HM.out; omega
          case rel =>
            refine ⟨k + 1, ?_, ⟨by have := HM.out; omega, by have := HM.out; omega⟩, ⟨?_⟩⟩
            · rw [← HK.out, w64 ((k : Int) + 1) (by omega) (by omega)]; rfl
            · rw [HT.out]
              unfold wordsF
              rw [List.map_append, List.map_cons, List.map_nil, show wordsOf mem ⟨f0, f1, f2⟩ = over (List.replicate f1.toNat 0) 0 ((mem.drop f0.toNat).take f1.toNat) from if_pos hf]
              exact HS.erase 1
        · have hfb : decide (f0 < (mem.length : Int)) = false := decide_eq_false hf
          go_upto_region 8 with (fail)
          go_wp2_with (first | ((with_reducible refine gate_dst (N := 39) rfl ?_); go_must (refine ev_lit_own HS rfl (N := 39) rfl (e2 := 37) ?hrun ?_); (case hrun => first | (go_simp; done) | (go_simp; rfl)); clear HS; intro gl w HS; replace HS := HS.front 2 rfl) | ((with_reducible refine gate_builtin (b := .append) (xs := #[.tmp 37, .tmp 39]) rfl ?_); go_must (refine ev_append_own (Kd.slice 2 IW) (.tmp 37) (.tmp 39) 35 37 (.slice none 0 0) 24 HS rfl rfl rfl rfl Try.underlying35 infoL rfl (by decide) (by omega) ?hl ?_); (case hl => simp [wordsF]; omega); clear HS; intro v1 w HS))
          go_roundg k1
          case measure => have := HM.out; omega
          case rel =>
            refine ⟨k + 1, ?_, ⟨by have := HM.out; omega, by have := HM.out; omega⟩, ⟨?_⟩⟩
            · rw [← HK.out, w64 ((k : Int) + 1) (by omega) (by omega)]; rfl
            · rw [HT.out]
              unfold wordsF
              rw [List.map_append, List.map_cons, List.map_nil, show wordsOf mem ⟨f0, f1, f2⟩ = List.replicate f1.toNat 0 from if_neg (show ¬ f0 < (mem.length : Int) by omega)]
              exact HS.erase 1
      · have hkk : k = arrs.length := by have := HM.out.1; omega
        subst hkk
        have hkb : decide (arrs.length < arrs.length) = false := decide_eq_false (Nat.lt_irrefl _)
        rw [List.take_length] at HS
        go_wp2
        go_ret
        exact ⟨_, rfl, HS.erase 1⟩
end Go.Proofs.Yteabbcnoamhofaa.B
