/- What two runs showed, held against each other. -/
import Derived.Test.YtkgoljbimblkhaaSpecRun
import Derived.Test.YtkgoljbimblkhaaMachRun2
import Derived.Test.YtkgoljbimblkhaaMachFew
import Derived.Test.YtkgoljbimblkhaaBx1
namespace Go.Proofs.Ytkgoljbimblkhaa.B
open Go.RowKit Go.Proofs.Ytkgoljbimblkhaa.Mine Go.Proofs.Ytkgoljbimblkhaa.Sep Go.Proofs.YtkgoljbimblkhaaW.PrintWords Go.Proofs.YtkgoljbimblkhaaW.PrintLast Go.Proofs.YtkgoljbimblkhaaW.PrintMore
set_option linter.unusedVariables false
set_option linter.unusedSimpArgs false
attribute [local go_sem high] eqA66
abbrev KO := k66
def eqO (x y : S66) : Bool := (x.f0 == y.f0 && (x.f1 == y.f1 && (x.f2 == y.f2)))
theorem eqO_eq {x y : S66} (h : eqO x y = true) : x = y := by
  unfold eqO at h
  simp only [Bool.and_eq_true, beq_iff_eq] at h
  obtain ⟨h1, h2, h3⟩ := h
  cases x; cases y; simp_all
theorem eqO_refl (x : S66) : eqO x x = true := by simp [eqO]
theorem eqO_comm (x y : S66) : eqO x y = eqO y x := by
  by_cases h : eqO x y = true
  · rw [eqO_eq h]
  · by_cases h2 : eqO y x = true
    · rw [eqO_eq h2]
    · rw [Bool.not_eq_true] at h h2; rw [h, h2]
/-- How much of two lists is the same, from the beginning. -/
def preO : List S66 → List S66 → Nat
  | x :: a, y :: b => if eqO x y = true then preO a b + 1 else 0
  | [], _ => 0
  | _ :: _, [] => 0
theorem preO_refl : ∀ a, preO a a = a.length
  | [] => rfl
  | x :: a => by rw [preO, if_pos (eqO_refl x), preO_refl a, List.length_cons]
theorem preO_comm : ∀ a b, preO a b = preO b a
  | [], [] => rfl
  | [], _ :: _ => rfl
  | _ :: _, [] => rfl
  | x :: a, y :: b => by rw [preO, preO, eqO_comm x y, preO_comm a b]
theorem preO_nil (b : List S66) : preO [] b = 0 := by cases b <;> rfl
theorem preO_nil2 (b : List S66) : preO b [] = 0 := by cases b <;> rfl
theorem preO_le : ∀ a b, preO a b ≤ a.length
  | [], b => by rw [preO_nil]; exact Nat.le_refl _
  | _ :: _, [] => by rw [preO_nil2]; omega
  | x :: a, y :: b => by
    rw [preO]
    split
    · have := preO_le a b; simp only [List.length_cons]; omega
    · omega
theorem preO_all : ∀ a b, preO a b = a.length → preO a b = b.length → a = b
  | [], [], _, _ => rfl
  | [], y :: b, h1, h2 => by rw [h1] at h2; simp at h2
  | x :: a, [], h1, h2 => by rw [h2] at h1; simp at h1
  | x :: a, y :: b, h1, h2 => by
    rw [preO] at h1 h2
    split at h1
    · rename_i h
      rw [if_pos h] at h2
      simp only [List.length_cons, Nat.add_right_cancel_iff] at h1 h2
      rw [preO_all a b h1 h2, eqO_eq h]
    · simp at h1
theorem preO_step {a b : List S66} {i : Nat} (ha : i < a.length) (hb : i < b.length) (h : eqO a[i] b[i] = true) : preO (a.drop i) (b.drop i) = preO (a.drop (i + 1)) (b.drop (i + 1)) + 1 := by
  rw [List.drop_eq_getElem_cons ha, List.drop_eq_getElem_cons hb, preO, if_pos h]
theorem preO_stop {a b : List S66} {i : Nat} (ha : i < a.length) (hb : i < b.length) (h : eqO a[i] b[i] = false) : preO (a.drop i) (b.drop i) = 0 := by
  rw [List.drop_eq_getElem_cons ha, List.drop_eq_getElem_cons hb, preO, if_neg (by rw [h]; decide)]
theorem preO_end {a b : List S66} {i : Nat} (h : a.length ≤ i ∨ b.length ≤ i) : preO (a.drop i) (b.drop i) = 0 := by
  rcases h with h | h
  · rw [List.drop_eq_nil_of_le h, preO_nil]
  · rw [List.drop_eq_nil_of_le h, preO_nil2]
def allO (a b : List S66) : Bool := ((preO a b : Int) == (a.length : Int)) && ((preO a b : Int) == (b.length : Int))
theorem rdO {a : List S66} {i : Nat} (h : i < a.length) : rd_T66 a (i : Int) = a[i] := by
  unfold rd_T66; rw [Int.toNat_natCast, List.getD_eq_getElem?_getD, List.getElem?_eq_getElem h]; rfl
theorem info33 : (Try.prog.info? 33).map (·.size) = some 4 := by kernel_rfl
section
variable {W0 w : World} {L : List Chunk} {Aa Ab : Option Addr} {ca cb : Nat} {a b : List S66}
set_option maxRecDepth 100000 in
set_option maxHeartbeats 2000000 in
theorem hold_calls (hA : ∀ w, Sat W0 w L → Kd.C KO w Aa a.length a) (hB : ∀ w, Sat W0 w L → Kd.C KO w Ab b.length b) (la : a.length ≤ 1000000) (HS : Sat W0 w L) :
    Calls Try.prog 14 #[.slice Aa a.length ca, .slice Ab b.length cb] w fun e w' => e = .returned (.agg #[.int .i64 (preO a b), .bool (allO a b), .slice Aa a.length ca, .slice Ab b.length cb]) ∧ Sat W0 w' L := by
  go_enter Try.func14, Try.ntmps14
  go_upto_region 1 with ((with_reducible refine gate_dst (N := 4) rfl ?_); go_must (refine ev_box HS rfl (N := 4) rfl (cs := #[.int .i64 0, .bool false, .slice none 0 0, .slice none 0 0]) (t := 33) ?hrun ?_); (case hrun => first | (go_simp; done) | (go_simp; rfl)); clear HS; intro g4 w HS)
  go_wp2
  go_loopg [5] (a.length + 1) (fun kq v5 w' => ∃ (i : Nat), v5 = .int .i64 (i : Int) ∧ Aside0 (i ≤ a.length ∧ i ≤ b.length ∧ a.length + 1 ≤ kq + i ∧ preO (a.drop i) (b.drop i) + i = preO a b) ∧
      Aside0 (Sat W0 w' (blk g4 33 #[.int .i64 0, .bool false, .slice none 0 0, .slice none 0 0] :: L)))
  case atStart => exact ⟨0, rfl, ⟨by omega, by omega, by omega, rfl⟩, ⟨HS⟩⟩
  case round =>
    clear HS
    have hu66 := Aside0.mk Try.underlying66
    obtain ⟨i, rfl, HJ, HS'⟩ := hrel
    have HS := HS'.out
    clear HS'
    cases gk with
    | zero => have := HJ.out; omega
    | succ k1 =>
      have hj := HJ.out
      obtain ⟨I, hI_⟩ : ∃ I : Int, (i : Int) = I := ⟨_, rfl⟩
      by_cases h1 : i < a.length
      · have c1 : decide (I < (a.length : Int)) = true := decide_eq_true (by omega)
        have e1 : (I == (a.length : Int)) = false := by simp; omega
        by_cases h2 : i < b.length
        · have c2 : decide (I < (b.length : Int)) = true := decide_eq_true (by omega)
          have p1 : 0 ≤ I := by omega
          have q1 : I < (a.length : Int) := by omega
          have q2 : I < (b.length : Int) := by omega
          obtain ⟨a1, rfl, x0, x1, x2⟩ := at_T66 (hA wr HS.tail) I p1 q1
          obtain ⟨a2, rfl, y0, y1, y2⟩ := at_T66 (hB wr HS.tail) I p1 q2
          have ra : rd_T66 a I = a[i] := by rw [← hI_]; exact rdO h1
          have rb : rd_T66 b I = b[i] := by rw [← hI_]; exact rdO h2
          have hwi : wrap64 (I + 1) = I + 1 := w64 _ (by omega) (by omega)
          by_cases he : eqO a[i] b[i] = true
          · have hs := preO_step h1 h2 he
            rw [← ra, ← rb] at he
            have c3 : ((rd_T66 a I).f0 == (rd_T66 b I).f0 && ((rd_T66 a I).f1 == (rd_T66 b I).f1 && ((rd_T66 a I).f2 == (rd_T66 b I).f2))) = true := he
            have HII := Aside0.mk (show (i : Int) = I ∧ _ ∧ i < a.length ∧ i < b.length from ⟨hI_, hs, h1, h2⟩)
            rw [hI_]
            have HA_ := Aside0.mk hA; have HB_ := Aside0.mk hB
            clear hA hB ra rb he hs hI_ hj e1 h1 h2
            replace p1 := eq_true p1
            replace q1 := eq_true q1
            replace q2 := eq_true q2
            go_wp2
            go_quiet (fail)
            go_wp2
            go_roundg k1
            case measure => omega
            case rel =>
              have hj := HJ.out
              have hs := HII.out
              refine ⟨i + 1, by rw [hwi, ← hs.1]; rfl, ⟨by omega, by omega, by omega, by omega⟩, ⟨HS.drewN nq⟩⟩
          · rw [Bool.not_eq_true] at he
            have hs := preO_stop h1 h2 he
            rw [← ra, ← rb] at he
            have c3 : ((rd_T66 a I).f0 == (rd_T66 b I).f0 && ((rd_T66 a I).f1 == (rd_T66 b I).f1 && ((rd_T66 a I).f2 == (rd_T66 b I).f2))) = false := he
            have hn : (preO a b : Int) = I := by omega
            have hal : allO a b = false := by unfold allO; rw [hn, e1]; rfl
            rw [hI_]
            have HN := Aside0.mk (And.intro hn hal)
            clear hA hB ra rb he hs hI_ hj hn hal h1 h2
            replace p1 := eq_true p1
            replace q1 := eq_true q1
            replace q2 := eq_true q2
            go_wp2
            go_quiet (fail)
            replace HS := HS.drewN nq
            generalize World.drewN wr nq = w at HS ⊢
            clear x0 x1 x2 y0 y1 y2
            go_wp2_with ((with_reducible refine gate_store (t := 33) (p := 4) rfl ?_); go_must (refine ev_store HS 0 rfl rfl 33 (.tmp 4) (.tmp 42) rfl rfl rfl [.int .i64 I, .bool false, .slice (some a1) a.length ca, .slice (some a2) b.length cb] ?hx (by kernel_rfl) (by rfl) ?h1 ?_); (case hx => first | rfl | (go_simp; done)); (case h1 => simp [Value.oneCell']); clear HS; intro w HS)
            exact ret_row HS 0 rfl rfl rfl _ Try.underlying33 rfl info33 rfl ⟨by rw [HN.out.1, HN.out.2], HS.tail⟩
        · have c2 : decide (I < (b.length : Int)) = false := decide_eq_false (by omega)
          have hs := preO_end (a := a) (b := b) (i := i) (.inr (by omega))
          have hn : (preO a b : Int) = I := by omega
          have hal : allO a b = false := by unfold allO; rw [hn, e1]; rfl
          rw [hI_]
          have HN := Aside0.mk (And.intro hn hal)
          clear hs hI_ hj hn hal hA hB
          go_wp2
          go_quiet (fail)
          replace HS := HS.drewN nq
          generalize World.drewN wr nq = w at HS ⊢
          go_wp2_with ((with_reducible refine gate_store (t := 33) (p := 4) rfl ?_); go_must (refine ev_store HS 0 rfl rfl 33 (.tmp 4) (.tmp 42) rfl rfl rfl [.int .i64 I, .bool false, .slice Aa a.length ca, .slice Ab b.length cb] ?hx (by kernel_rfl) (by rfl) ?h1 ?_); (case hx => first | rfl | (go_simp; done)); (case h1 => simp [Value.oneCell']); clear HS; intro w HS)
          exact ret_row HS 0 rfl rfl rfl _ Try.underlying33 rfl info33 rfl ⟨by rw [HN.out.1, HN.out.2], HS.tail⟩
      · have c1 : decide (I < (a.length : Int)) = false := decide_eq_false (by omega)
        have e1 : (I == (a.length : Int)) = true := by simp; omega
        have hs := preO_end (a := a) (b := b) (i := i) (.inl (by omega))
        have hn : (preO a b : Int) = I := by omega
        obtain ⟨q, hq⟩ : ∃ q, q = (I == (b.length : Int)) := ⟨_, rfl⟩
        have hq2 : (I == (b.length : Int)) = q := hq.symm
        have hal : allO a b = q := by unfold allO; rw [hn, e1, hq]; rfl
        rw [hI_]
        have HN := Aside0.mk (And.intro hn hal)
        clear hs hI_ hj hn hal hq hA hB
        go_wp2
        go_quiet (fail)
        replace HS := HS.drewN nq
        generalize World.drewN wr nq = w at HS ⊢
        go_wp2_with ((with_reducible refine gate_store (t := 33) (p := 4) rfl ?_); go_must (refine ev_store HS 0 rfl rfl 33 (.tmp 4) (.tmp 42) rfl rfl rfl [.int .i64 I, .bool q, .slice Aa a.length ca, .slice Ab b.length cb] ?hx (by kernel_rfl) (by rfl) ?h1 ?_); (case hx => first | rfl | (go_simp; done)); (case h1 => simp [Value.oneCell']); clear HS; intro w HS)
        exact ret_row HS 0 rfl rfl rfl _ Try.underlying33 rfl info33 rfl ⟨by rw [HN.out.1, HN.out.2], HS.tail⟩
end
end Go.Proofs.Ytkgoljbimblkhaa.B
