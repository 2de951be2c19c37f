/- AstSigns: how ops are written: each that can be, otherwise than others, for every two numbers. -/
import Derived.Test.YtaammdmaldodaaaDoorAstHead
namespace Go.Proofs.YtaammdmaldodaaaDoor.B
open Go.RowKit Go.Proofs.YtaammdmaldodaaaDoor.Mine Go.Proofs.YtaammdmaldodaaaDoor.Sep Go.Proofs.YtaammdmaldodaaaDoorW.PrintWords Go.Proofs.YtaammdmaldodaaaDoorW.PrintLast Go.Proofs.YtaammdmaldodaaaDoorW.PrintMore
set_option linter.unusedVariables false
set_option linter.unusedSimpArgs false
set_option maxRecDepth 100000 in
set_option maxHeartbeats 2000000 in
theorem signs_lo (a b : Int) (X Y : ByteArray) (W : World) (hG : GL W) (hX : Aside0 (bs (signF a) = X)) (hY : Aside0 (bs (signF b) = Y)) (hx : X = ⟨#[]⟩) (h1 : decide (1 ≤ a) = false) :
    Calls Tryd.prog 3 #[.int .i64 a, .int .i64 b] W fun e W' => e = .returned (.bool true) ∧ Below W.heap.size W W' := by
  have HS := Sat.start W
  go_enter Tryd.func3, Tryd.ntmps3
  go_upto_region 3 with (go_at_call 7; refine (head_calls (fun w h => hG.below (h.old 0 rfl)) HS).mono ?_; rintro e w_ ⟨rfl, HS_⟩; clear HS; have HS := HS_; clear HS_)
  have HG := Aside0.mk (hG.below (HS.old 0 rfl))
  have HS1 := Aside0.mk (sign_calls a _ HG.out)
  have HS2 := Aside0.mk (sign_calls b _ HG.out)
  rw [hX.out] at HS1
  rw [hY.out] at HS2
  go_upto_region 4 with (go_at_call 8; refine HS1.out.mono ?_; rintro e w2 ⟨rfl, rfl⟩)
  go_upto_region 5 with (go_at_call 8; refine HS2.out.mono ?_; rintro e w2 ⟨rfl, rfl⟩)
  subst hx
  go_wp2
  go_ret
  exact ⟨rfl, HS.old 0 rfl⟩
set_option maxRecDepth 100000 in
set_option maxHeartbeats 2000000 in
theorem signs_hi (a b : Int) (X Y : ByteArray) (W : World) (hG : GL W) (hX : Aside0 (bs (signF a) = X)) (hY : Aside0 (bs (signF b) = Y)) (hx : X = ⟨#[]⟩) (h1 : decide (1 ≤ a) = true) (h2 : decide (a ≤ 14) = false) :
    Calls Tryd.prog 3 #[.int .i64 a, .int .i64 b] W fun e W' => e = .returned (.bool true) ∧ Below W.heap.size W W' := by
  have HS := Sat.start W
  go_enter Tryd.func3, Tryd.ntmps3
  go_upto_region 3 with (go_at_call 7; refine (head_calls (fun w h => hG.below (h.old 0 rfl)) HS).mono ?_; rintro e w_ ⟨rfl, HS_⟩; clear HS; have HS := HS_; clear HS_)
  have HG := Aside0.mk (hG.below (HS.old 0 rfl))
  have HS1 := Aside0.mk (sign_calls a _ HG.out)
  have HS2 := Aside0.mk (sign_calls b _ HG.out)
  rw [hX.out] at HS1
  rw [hY.out] at HS2
  go_upto_region 4 with (go_at_call 8; refine HS1.out.mono ?_; rintro e w2 ⟨rfl, rfl⟩)
  go_upto_region 5 with (go_at_call 8; refine HS2.out.mono ?_; rintro e w2 ⟨rfl, rfl⟩)
  subst hx
  go_wp2
  go_ret
  exact ⟨rfl, HS.old 0 rfl⟩
set_option maxRecDepth 100000 in
set_option maxHeartbeats 2000000 in
theorem signs_in (a b : Int) (X Y : ByteArray) (W : World) (hG : GL W) (hX : Aside0 (bs (signF a) = X)) (hY : Aside0 (bs (signF b) = Y)) (r : Bool) (h1 : decide (1 ≤ a) = true) (h2 : decide (a ≤ 14) = true) (hx : X.toList.isEmpty = false) (hs : decide ((X.size : Int) ≤ 2) = true) (he : (X.toList == Y.toList) = r) (hab : (a == b) = r) :
    Calls Tryd.prog 3 #[.int .i64 a, .int .i64 b] W fun e W' => e = .returned (.bool true) ∧ Below W.heap.size W W' := by
  have HS := Sat.start W
  go_enter Tryd.func3, Tryd.ntmps3
  go_upto_region 3 with (go_at_call 7; refine (head_calls (fun w h => hG.below (h.old 0 rfl)) HS).mono ?_; rintro e w_ ⟨rfl, HS_⟩; clear HS; have HS := HS_; clear HS_)
  have HG := Aside0.mk (hG.below (HS.old 0 rfl))
  have HS1 := Aside0.mk (sign_calls a _ HG.out)
  have HS2 := Aside0.mk (sign_calls b _ HG.out)
  rw [hX.out] at HS1
  rw [hY.out] at HS2
  go_upto_region 4 with (go_at_call 8; refine HS1.out.mono ?_; rintro e w2 ⟨rfl, rfl⟩)
  go_upto_region 5 with (go_at_call 8; refine HS2.out.mono ?_; rintro e w2 ⟨rfl, rfl⟩)
  go_wp2
  go_ret
  exact ⟨rfl, HS.old 0 rfl⟩
theorem bs_toList (l : List UInt8) : (bs l).toList = l := by simp [bs]
theorem sign_at {i : Nat} (h : i < 15) : signF (i : Int) = signList.getD i [] := by unfold signF; rw [if_neg (by omega), Int.toNat_natCast]
theorem sign_out {b : Int} (h : b < 0 ∨ 15 ≤ b) : signF b = [] := by unfold signF; rw [if_pos h]
theorem sign_inj : ∀ i < 15, 1 ≤ i → ∀ j < 15, signList.getD i [] = signList.getD j [] → i = j := by decide
theorem sign_some : ∀ i < 15, 1 ≤ i → (signList.getD i []).isEmpty = false := by decide
theorem signs_walk (a b : Int) (W : World) (_ : (Lit.int .i64 a).wf = true) (_ : (Lit.int .i64 b).wf = true) (hL : laidMetH Tryd.prog astLaid W) :
    Calls Tryd.prog 3 #[.int .i64 a, .int .i64 b] W fun e W' => e = .returned (.bool true) ∧ Below W.heap.size W W' := by
  have hG := of_laid hL
  by_cases h1 : 1 ≤ a
  · by_cases h2 : a ≤ 14
    · obtain ⟨i, rfl⟩ : ∃ i : Nat, a = (i : Int) := ⟨a.toNat, by omega⟩
      refine signs_in (i : Int) b _ _ W hG ⟨rfl⟩ ⟨rfl⟩ (decide ((i : Int) = b)) (decide_eq_true h1) (decide_eq_true h2) ?_ ?_ ?_ ?_
      · rw [bs_toList, sign_at (by omega)]; exact sign_some i (by omega) (by omega)
      · rw [bs_size]; exact decide_eq_true (by have := sign_len (i : Int); omega)
      · rw [bs_toList, bs_toList]
        by_cases hb : (i : Int) = b
        · rw [← hb]; simp
        · rw [decide_eq_false hb, beq_eq_false_iff_ne]
          intro he
          by_cases h0 : b < 0 ∨ 15 ≤ b
          · rw [sign_out h0, sign_at (by omega)] at he
            have := sign_some i (by omega) (by omega)
            rw [he] at this
            cases this
          · obtain ⟨j, rfl⟩ : ∃ j : Nat, b = (j : Int) := ⟨b.toNat, by omega⟩
            rw [sign_at (by omega), sign_at (by omega)] at he
            exact hb (by rw [sign_inj i (by omega) (by omega) j (by omega) he])
      · by_cases hb : (i : Int) = b
        · rw [← hb]; simp
        · rw [decide_eq_false hb, beq_eq_false_iff_ne]; exact hb
    · have : signF a = [] := sign_out (.inr (by omega))
      exact signs_hi a b _ _ W hG ⟨rfl⟩ ⟨rfl⟩ (by rw [this]; rfl) (decide_eq_true h1) (decide_eq_false h2)
  · have : signF a = [] := by
      by_cases h0 : a < 0
      · exact sign_out (.inl h0)
      · obtain rfl : a = 0 := by omega
        rfl
    exact signs_lo a b _ _ W hG ⟨rfl⟩ ⟨rfl⟩ (by rw [this]; rfl) (decide_eq_false h1)
end Go.Proofs.YtaammdmaldodaaaDoor.B
