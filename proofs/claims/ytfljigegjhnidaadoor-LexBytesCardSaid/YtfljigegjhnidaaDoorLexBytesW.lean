/- The walk of LexBytes: out of the kit's print, changed by a program of mine. -/
import Derived.Test.YtfljigegjhnidaaDoorAll
import Derived.Test.YtfljigegjhnidaaDoorHead
import Derived.Test.YtfljigegjhnidaaDoorMine
namespace Go.Proofs.YtfljigegjhnidaaDoor.B
open Go.RowKit Go.Proofs.YtfljigegjhnidaaDoorW.PrintWords Go.Proofs.YtfljigegjhnidaaDoorW.PrintLast Go.Proofs.YtfljigegjhnidaaDoorW.PrintMore
attribute [local go_sem] max2_int min2_int max_two min_two max_three min_three max_four min_four   -- for this text's walks alone
set_option linter.unusedVariables false
set_option linter.unusedSimpArgs false

attribute [local go_sem high] eqA28
def lex_isMark.f (a0 : ByteArray) : Option Bool := some (markList.any fun y => y == a0.toList)
/-! ### palingslaw02_LexBytes: function 4 -/
mutual
def palingslaw02_LexBytes.j0 : Nat → Int → ByteArray → List (S34) → Int → Bool → Int → Int → Int → Option (Bool)
  | 0, _, _, _, _, _, _, _, _ => none
  | k + 1, x0, x3, x4, x6, x29, x197000, x197001, x197002 => if x29 = true then (if 1 = 0 then (if (x197000 == 10 && ((x197001 == 1 && (x197002 == 1)))) = true then (some ((x4.length : Int) == 0)) else (some false)) else (if (x197000 == 0 && ((x197001 == 0 && (x197002 == 0)))) = true then (if (x4.length : Int) = 2 then (if 0 < (x4.length : Int) then (if ((rd_T34 x4 0).f0) = 1 then (some (((rd_T34 x4 0).f1).toList == x3.toList)) else (some false)) else (none)) else (some false)) else (some false))) else (if x0 ≥ 48 then (palingslaw02_LexBytes.j1 k x0 x3 x4 x6 (decide (x0 ≤ 57)) x197000 x197001 x197002) else (palingslaw02_LexBytes.j1 k x0 x3 x4 x6 false x197000 x197001 x197002))
def palingslaw02_LexBytes.j1 : Nat → Int → ByteArray → List (S34) → Int → Bool → Int → Int → Int → Option (Bool)
  | 0, _, _, _, _, _, _, _, _ => none
  | k + 1, x0, x3, x4, x6, x48, x197000, x197001, x197002 => if x48 = true then (if 2 = 0 then (if (x197000 == 10 && ((x197001 == 1 && (x197002 == 1)))) = true then (some ((x4.length : Int) == 0)) else (some false)) else (if (x197000 == 0 && ((x197001 == 0 && (x197002 == 0)))) = true then (if (x4.length : Int) = 2 then (if 0 < (x4.length : Int) then (if ((rd_T34 x4 0).f0) = 2 then (some (((rd_T34 x4 0).f1).toList == x3.toList)) else (some false)) else (none)) else (some false)) else (some false))) else (if x0 = 32 then (palingslaw02_LexBytes.j2 k x3 x4 x6 true x197000 x197001 x197002) else (if x0 = 9 then (palingslaw02_LexBytes.j2 k x3 x4 x6 true x197000 x197001 x197002) else (if x0 = 10 then (palingslaw02_LexBytes.j2 k x3 x4 x6 true x197000 x197001 x197002) else (palingslaw02_LexBytes.j2 k x3 x4 x6 (x0 == 13) x197000 x197001 x197002))))
def palingslaw02_LexBytes.j2 : Nat → ByteArray → List (S34) → Int → Bool → Int → Int → Int → Option (Bool)
  | 0, _, _, _, _, _, _, _ => none
  | k + 1, x3, x4, x6, x55, x197000, x197001, x197002 => if x55 = true then (if (x197000 == 0 && ((x197001 == 0 && (x197002 == 0)))) = true then (some ((x4.length : Int) == 1)) else (some false)) else ((lex_isMark.f x3).bind fun t201 => (if t201 = true then (if 4 = 0 then (if (x197000 == 10 && ((x197001 == 1 && (x197002 == 1)))) = true then (some ((x4.length : Int) == 0)) else (some false)) else (if (x197000 == 0 && ((x197001 == 0 && (x197002 == 0)))) = true then (if (x4.length : Int) = 2 then (if 0 < (x4.length : Int) then (if ((rd_T34 x4 0).f0) = 4 then (some (((rd_T34 x4 0).f1).toList == x3.toList)) else (some false)) else (none)) else (some false)) else (some false))) else (if x6 = 0 then (if (x197000 == 10 && ((x197001 == 1 && (x197002 == 1)))) = true then (some ((x4.length : Int) == 0)) else (some false)) else (if (x197000 == 0 && ((x197001 == 0 && (x197002 == 0)))) = true then (if (x4.length : Int) = 2 then (if 0 < (x4.length : Int) then (if ((rd_T34 x4 0).f0) = x6 then (some (((rd_T34 x4 0).f1).toList == x3.toList)) else (some false)) else (none)) else (some false)) else (some false)))))
end
def palingslaw02_LexBytes.f (k : Nat) (a0 : Int) : Option (Bool) := (palingslaw02_head.f k).bind fun t186 => (if t186 = true then ((some (([a0] : List Int) : List Int)).bind fun y187 => ((lex_All.f k (strOfNums y187)).bind fun bt190 => (if a0 ≥ 97 then (if a0 ≤ 122 then (palingslaw02_LexBytes.j0 k a0 (strOfNums y187) bt190.1 0 true bt190.2.1 bt190.2.2.1 bt190.2.2.2) else (if a0 ≥ 65 then (if a0 ≤ 90 then (palingslaw02_LexBytes.j0 k a0 (strOfNums y187) bt190.1 0 true bt190.2.1 bt190.2.2.1 bt190.2.2.2) else (palingslaw02_LexBytes.j0 k a0 (strOfNums y187) bt190.1 0 (a0 == 95) bt190.2.1 bt190.2.2.1 bt190.2.2.2)) else (palingslaw02_LexBytes.j0 k a0 (strOfNums y187) bt190.1 0 (a0 == 95) bt190.2.1 bt190.2.2.1 bt190.2.2.2))) else (if a0 ≥ 65 then (if a0 ≤ 90 then (palingslaw02_LexBytes.j0 k a0 (strOfNums y187) bt190.1 0 true bt190.2.1 bt190.2.2.1 bt190.2.2.2) else (palingslaw02_LexBytes.j0 k a0 (strOfNums y187) bt190.1 0 (a0 == 95) bt190.2.1 bt190.2.2.1 bt190.2.2.2)) else (palingslaw02_LexBytes.j0 k a0 (strOfNums y187) bt190.1 0 (a0 == 95) bt190.2.1 bt190.2.2.1 bt190.2.2.2))))) else (some false))
theorem palingslaw02_LexBytes.mono_l : ∀ k, (∀ y0 y1 y2 y3 y4 y5 y6 y7, LeO (palingslaw02_LexBytes.j0 k y0 y1 y2 y3 y4 y5 y6 y7) (palingslaw02_LexBytes.j0 (k + 1) y0 y1 y2 y3 y4 y5 y6 y7)) ∧ (∀ y0 y1 y2 y3 y4 y5 y6 y7, LeO (palingslaw02_LexBytes.j1 k y0 y1 y2 y3 y4 y5 y6 y7) (palingslaw02_LexBytes.j1 (k + 1) y0 y1 y2 y3 y4 y5 y6 y7)) ∧ (∀ y0 y1 y2 y3 y4 y5 y6, LeO (palingslaw02_LexBytes.j2 k y0 y1 y2 y3 y4 y5 y6) (palingslaw02_LexBytes.j2 (k + 1) y0 y1 y2 y3 y4 y5 y6))
  | 0 => ⟨fun _ _ _ _ _ _ _ _ r h => by simp [palingslaw02_LexBytes.j0] at h, fun _ _ _ _ _ _ _ _ r h => by simp [palingslaw02_LexBytes.j1] at h, fun _ _ _ _ _ _ _ r h => by simp [palingslaw02_LexBytes.j2] at h⟩
  | k + 1 => by
    obtain ⟨ih0, ih1, ih2⟩ := palingslaw02_LexBytes.mono_l k
    refine ⟨?_, ?_, ?_⟩
    · intro y0 y1 y2 y3 y4 y5 y6 y7
      unfold palingslaw02_LexBytes.j0
      repeat' first
      | (with_reducible exact ih0 _ _ _ _ _ _ _ _)
      | (with_reducible exact ih1 _ _ _ _ _ _ _ _)
      | (with_reducible exact ih2 _ _ _ _ _ _ _)
      | (with_reducible exact lex_All.mono _ _)
      | (with_reducible exact palingslaw02_head.mono _)
      | (with_reducible exact LeO.refl _)
      | (with_reducible exact LeO.none _)
      | (with_reducible refine LeO.ite ?_ ?_)
      | (with_reducible refine LeO.bind ?_ (fun _ => ?_))
      | exact ih0 _ _ _ _ _ _ _ _
      | exact ih1 _ _ _ _ _ _ _ _
      | exact ih2 _ _ _ _ _ _ _
      | exact lex_All.mono _ _
      | exact palingslaw02_head.mono _
      | exact LeO.none _
      | refine LeO.ite ?_ ?_
      | refine LeO.bind ?_ (fun _ => ?_)
    · intro y0 y1 y2 y3 y4 y5 y6 y7
      unfold palingslaw02_LexBytes.j1
      repeat' first
      | (with_reducible exact ih0 _ _ _ _ _ _ _ _)
      | (with_reducible exact ih1 _ _ _ _ _ _ _ _)
      | (with_reducible exact ih2 _ _ _ _ _ _ _)
      | (with_reducible exact lex_All.mono _ _)
      | (with_reducible exact palingslaw02_head.mono _)
      | (with_reducible exact LeO.refl _)
      | (with_reducible exact LeO.none _)
      | (with_reducible refine LeO.ite ?_ ?_)
      | (with_reducible refine LeO.bind ?_ (fun _ => ?_))
      | exact ih0 _ _ _ _ _ _ _ _
      | exact ih1 _ _ _ _ _ _ _ _
      | exact ih2 _ _ _ _ _ _ _
      | exact lex_All.mono _ _
      | exact palingslaw02_head.mono _
      | exact LeO.none _
      | refine LeO.ite ?_ ?_
      | refine LeO.bind ?_ (fun _ => ?_)
    · intro y0 y1 y2 y3 y4 y5 y6
      unfold palingslaw02_LexBytes.j2
      repeat' first
      | (with_reducible exact ih0 _ _ _ _ _ _ _ _)
      | (with_reducible exact ih1 _ _ _ _ _ _ _ _)
      | (with_reducible exact ih2 _ _ _ _ _ _ _)
      | (with_reducible exact lex_All.mono _ _)
      | (with_reducible exact palingslaw02_head.mono _)
      | (with_reducible exact LeO.refl _)
      | (with_reducible exact LeO.none _)
      | (with_reducible refine LeO.ite ?_ ?_)
      | (with_reducible refine LeO.bind ?_ (fun _ => ?_))
      | exact ih0 _ _ _ _ _ _ _ _
      | exact ih1 _ _ _ _ _ _ _ _
      | exact ih2 _ _ _ _ _ _ _
      | exact lex_All.mono _ _
      | exact palingslaw02_head.mono _
      | exact LeO.none _
      | refine LeO.ite ?_ ?_
      | refine LeO.bind ?_ (fun _ => ?_)
theorem palingslaw02_LexBytes.mono : ∀ a0 k, LeO (palingslaw02_LexBytes.f k a0) (palingslaw02_LexBytes.f (k + 1) a0) := by
  intro a0 k
  obtain ⟨ih0, ih1, ih2⟩ := palingslaw02_LexBytes.mono_l k
  unfold palingslaw02_LexBytes.f
  repeat' first
      | (with_reducible exact ih0 _ _ _ _ _ _ _ _)
      | (with_reducible exact ih1 _ _ _ _ _ _ _ _)
      | (with_reducible exact ih2 _ _ _ _ _ _ _)
      | (with_reducible exact lex_All.mono _ _)
      | (with_reducible exact palingslaw02_head.mono _)
      | (with_reducible exact LeO.refl _)
      | (with_reducible exact LeO.none _)
      | (with_reducible refine LeO.ite ?_ ?_)
      | (with_reducible refine LeO.bind ?_ (fun _ => ?_))
      | exact ih0 _ _ _ _ _ _ _ _
      | exact ih1 _ _ _ _ _ _ _ _
      | exact ih2 _ _ _ _ _ _ _
      | exact lex_All.mono _ _
      | exact palingslaw02_head.mono _
      | exact LeO.none _
      | refine LeO.ite ?_ ?_
      | refine LeO.bind ?_ (fun _ => ?_)
set_option maxHeartbeats 8000000 in
set_option maxRecDepth 100000 in
theorem palingslaw02_LexBytes.calls (k : Nat) (a0 : Int) (r : Bool) (w : World) (hL : GLaid w) (hM : StrsAt w 0 markList) (h : palingslaw02_LexBytes.f k a0 = some r) :
    Calls Tryd.prog 4 #[.int .u8 a0] w fun e w' => e = .returned (.bool r) ∧ Below w.heap.size w w' := by
  have GL := Aside0.mk hL
  clear hL
  have GM := Aside0.mk hM
  clear hM
  have hu28 := Tryd.underlying28
  have hu26 := Tryd.underlying26
  have HB := Aside0.mk (Below.refl w.heap.size w)
  have H : ((palingslaw02_head.f k).bind fun t186 => (if t186 = true then ((some (([a0] : List Int) : List Int)).bind fun y187 => ((lex_All.f k (strOfNums y187)).bind fun bt190 => (if a0 ≥ 97 then (if a0 ≤ 122 then (palingslaw02_LexBytes.j0 k a0 (strOfNums y187) bt190.1 0 true bt190.2.1 bt190.2.2.1 bt190.2.2.2) else (if a0 ≥ 65 then (if a0 ≤ 90 then (palingslaw02_LexBytes.j0 k a0 (strOfNums y187) bt190.1 0 true bt190.2.1 bt190.2.2.1 bt190.2.2.2) else (palingslaw02_LexBytes.j0 k a0 (strOfNums y187) bt190.1 0 (a0 == 95) bt190.2.1 bt190.2.2.1 bt190.2.2.2)) else (palingslaw02_LexBytes.j0 k a0 (strOfNums y187) bt190.1 0 (a0 == 95) bt190.2.1 bt190.2.2.1 bt190.2.2.2))) else (if a0 ≥ 65 then (if a0 ≤ 90 then (palingslaw02_LexBytes.j0 k a0 (strOfNums y187) bt190.1 0 true bt190.2.1 bt190.2.2.1 bt190.2.2.2) else (palingslaw02_LexBytes.j0 k a0 (strOfNums y187) bt190.1 0 (a0 == 95) bt190.2.1 bt190.2.2.1 bt190.2.2.2)) else (palingslaw02_LexBytes.j0 k a0 (strOfNums y187) bt190.1 0 (a0 == 95) bt190.2.1 bt190.2.2.1 bt190.2.2.2))))) else (some false))) = some r := h
  clear h
  replace H := Option.bind_eq_some_iff.mp H
  obtain ⟨t186, A20, H⟩ := H
  replace H : (if t186 = true then ((some (([a0] : List Int) : List Int)).bind fun y187 => ((lex_All.f k (strOfNums y187)).bind fun bt190 => (if a0 ≥ 97 then (if a0 ≤ 122 then (palingslaw02_LexBytes.j0 k a0 (strOfNums y187) bt190.1 0 true bt190.2.1 bt190.2.2.1 bt190.2.2.2) else (if a0 ≥ 65 then (if a0 ≤ 90 then (palingslaw02_LexBytes.j0 k a0 (strOfNums y187) bt190.1 0 true bt190.2.1 bt190.2.2.1 bt190.2.2.2) else (palingslaw02_LexBytes.j0 k a0 (strOfNums y187) bt190.1 0 (a0 == 95) bt190.2.1 bt190.2.2.1 bt190.2.2.2)) else (palingslaw02_LexBytes.j0 k a0 (strOfNums y187) bt190.1 0 (a0 == 95) bt190.2.1 bt190.2.2.1 bt190.2.2.2))) else (if a0 ≥ 65 then (if a0 ≤ 90 then (palingslaw02_LexBytes.j0 k a0 (strOfNums y187) bt190.1 0 true bt190.2.1 bt190.2.2.1 bt190.2.2.2) else (palingslaw02_LexBytes.j0 k a0 (strOfNums y187) bt190.1 0 (a0 == 95) bt190.2.1 bt190.2.2.1 bt190.2.2.2)) else (palingslaw02_LexBytes.j0 k a0 (strOfNums y187) bt190.1 0 (a0 == 95) bt190.2.1 bt190.2.2.1 bt190.2.2.2))))) else (some false)) = some r := H
  have A2 := Aside0.mk A20
  clear A20
  by_cases c3 : t186 = true
  · subst c3
    have H1 : ((some (([a0] : List Int) : List Int)).bind fun y187 => ((lex_All.f k (strOfNums y187)).bind fun bt190 => (if a0 ≥ 97 then (if a0 ≤ 122 then (palingslaw02_LexBytes.j0 k a0 (strOfNums y187) bt190.1 0 true bt190.2.1 bt190.2.2.1 bt190.2.2.2) else (if a0 ≥ 65 then (if a0 ≤ 90 then (palingslaw02_LexBytes.j0 k a0 (strOfNums y187) bt190.1 0 true bt190.2.1 bt190.2.2.1 bt190.2.2.2) else (palingslaw02_LexBytes.j0 k a0 (strOfNums y187) bt190.1 0 (a0 == 95) bt190.2.1 bt190.2.2.1 bt190.2.2.2)) else (palingslaw02_LexBytes.j0 k a0 (strOfNums y187) bt190.1 0 (a0 == 95) bt190.2.1 bt190.2.2.1 bt190.2.2.2))) else (if a0 ≥ 65 then (if a0 ≤ 90 then (palingslaw02_LexBytes.j0 k a0 (strOfNums y187) bt190.1 0 true bt190.2.1 bt190.2.2.1 bt190.2.2.2) else (palingslaw02_LexBytes.j0 k a0 (strOfNums y187) bt190.1 0 (a0 == 95) bt190.2.1 bt190.2.2.1 bt190.2.2.2)) else (palingslaw02_LexBytes.j0 k a0 (strOfNums y187) bt190.1 0 (a0 == 95) bt190.2.1 bt190.2.2.1 bt190.2.2.2))))) = some r := by rw [if_pos rfl] at H; exact H
    clear H
    have H := H1
    clear H1
    obtain ⟨y187, hy187⟩ : ∃ y_ : List Int, y_ = (([a0] : List Int)) := ⟨_, rfl⟩
    replace H : ((lex_All.f k (strOfNums y187)).bind fun bt190 => (if a0 ≥ 97 then (if a0 ≤ 122 then (palingslaw02_LexBytes.j0 k a0 (strOfNums y187) bt190.1 0 true bt190.2.1 bt190.2.2.1 bt190.2.2.2) else (if a0 ≥ 65 then (if a0 ≤ 90 then (palingslaw02_LexBytes.j0 k a0 (strOfNums y187) bt190.1 0 true bt190.2.1 bt190.2.2.1 bt190.2.2.2) else (palingslaw02_LexBytes.j0 k a0 (strOfNums y187) bt190.1 0 (a0 == 95) bt190.2.1 bt190.2.2.1 bt190.2.2.2)) else (palingslaw02_LexBytes.j0 k a0 (strOfNums y187) bt190.1 0 (a0 == 95) bt190.2.1 bt190.2.2.1 bt190.2.2.2))) else (if a0 ≥ 65 then (if a0 ≤ 90 then (palingslaw02_LexBytes.j0 k a0 (strOfNums y187) bt190.1 0 true bt190.2.1 bt190.2.2.1 bt190.2.2.2) else (palingslaw02_LexBytes.j0 k a0 (strOfNums y187) bt190.1 0 (a0 == 95) bt190.2.1 bt190.2.2.1 bt190.2.2.2)) else (palingslaw02_LexBytes.j0 k a0 (strOfNums y187) bt190.1 0 (a0 == 95) bt190.2.1 bt190.2.2.1 bt190.2.2.2)))) = some r := by first | (rw [hy187]; with_reducible exact H) | (have H2_ := (Option.bind_some _ _).symm.trans H; rw [hy187]; with_reducible exact H2_) | (have H2_ := (Option.bind_some _ _).symm.trans H; with_reducible exact H2_) | with_reducible exact H | (rw [hy187]; exact H) | exact H
    have Ny187 := Aside0.mk hy187
    clear hy187
    replace H := Option.bind_eq_some_iff.mp H
    obtain ⟨⟨t190, t193, t194, t195⟩, A40, H⟩ := H
    replace H : (if a0 ≥ 97 then (if a0 ≤ 122 then (palingslaw02_LexBytes.j0 k a0 (strOfNums y187) t190 0 true t193 t194 t195) else (if a0 ≥ 65 then (if a0 ≤ 90 then (palingslaw02_LexBytes.j0 k a0 (strOfNums y187) t190 0 true t193 t194 t195) else (palingslaw02_LexBytes.j0 k a0 (strOfNums y187) t190 0 (a0 == 95) t193 t194 t195)) else (palingslaw02_LexBytes.j0 k a0 (strOfNums y187) t190 0 (a0 == 95) t193 t194 t195))) else (if a0 ≥ 65 then (if a0 ≤ 90 then (palingslaw02_LexBytes.j0 k a0 (strOfNums y187) t190 0 true t193 t194 t195) else (palingslaw02_LexBytes.j0 k a0 (strOfNums y187) t190 0 (a0 == 95) t193 t194 t195)) else (palingslaw02_LexBytes.j0 k a0 (strOfNums y187) t190 0 (a0 == 95) t193 t194 t195))) = some r := H
    have A4 := Aside0.mk A40
    clear A40
    have HC5 := Aside0.mk H
    clear H
    go_enter Tryd.func4, Tryd.ntmps4
    go_upto_region 12 with (first | ((with_reducible refine gate_callee (f := 9) rfl ?_); refine goesL_ (some 9) rfl rfl Tryd.func9 (by kernel_rfl) rfl #[] rfl (by (try simp only [List.map_toArray, List.map_cons, List.map_nil]); first | done | rfl | (simp only [List.length_drop, List.length_take]; rfl)) ?_; (with_reducible refine (palingslaw02_head.calls k  true _ ?sideG A2.out).mono ?_); (case sideG => exact GL.out.below (by repeat (first | (with_reducible first | exact HB.out | apply below_alloc | apply pw_below_drewN | apply below_drew1) | exact HB.out))); rintro e w6 ⟨rfl, hb⟩; refine ⟨_, rfl, ?_⟩; have n0_ := Aside0.mk (below_step (by repeat (first | (with_reducible first | exact HB.out | apply below_alloc | apply pw_below_drewN | apply below_drew1) | exact HB.out)) hb); clear HB; have HB := n0_; clear n0_; (try clear hb); (try clear hb2); (try clear hk); (try clear hi)) | ((with_reducible refine gate_dst (N := 12) rfl ?_); (try (refine gate_guard (by rfl) ?_; dsimp only)); refine Kd.R_lit (Kd.int .u8) _ 5 ?hg (N := 12) ?hd (xs := ([a0] : List Int)) (inner := [.int .u8 a0]) (ok := fun _ => True) (okp := fun _ => True) ?hr ?hp (fun _ hk => hk) trivial (Below.refl _ _) (Nat.le_refl _) (by simp) ?_; (case hd => rfl); (case hg => rfl); (case hr => first | (go_simp; done) | (go_simp; rfl)); (case hp => exact (Reps.one (show Kd.M (Kd.int .u8) _ _ _ a0 [.int .u8 a0] from rfl) (Reps.none _ _))); intro v188 w7 ho8 hb hg_ hnew_; clear hg_ hnew_; (first | rw [← Ny187.out] at ho8 | (simp only [Int.reduceToNat] at ho8; rw [← Ny187.out] at ho8)); have n0_ := Aside0.mk (Kd.R_lower ho8 (below_size (by repeat (first | (with_reducible first | exact HB.out | apply below_alloc | apply pw_below_drewN | apply below_drew1) | exact HB.out)))); have n1_ := Aside0.mk (below_step (by repeat (first | (with_reducible first | exact HB.out | apply below_alloc | apply pw_below_drewN | apply below_drew1) | exact HB.out)) hb); clear HB; have HO189 := n0_; have HB := n1_; clear n0_ n1_; clear hb ho8; have hcv9 := own_string (P := Tryd.prog) Tryd.underlying37 Tryd.underlying5 Tryd.underlying9 (Kd.own_of_R HO189.out)) | ((with_reducible refine gate_callee (f := 10) rfl ?_); refine goesL_ (some 16) rfl rfl Tryd.func10 (by kernel_rfl) rfl #[.string (strOfNums y187)] rfl (by (try simp only [List.map_toArray, List.map_cons, List.map_nil]); first | done | rfl | (simp only [List.length_drop, List.length_take]; rfl)) ?_; (with_reducible refine (lex_All.calls k (strOfNums y187) t190 t193 t194 t195 _ ?sideG A4.out).mono ?_); (case sideG => exact GL.out.below (by repeat (first | (with_reducible first | exact HB.out | apply below_alloc | apply pw_below_drewN | apply below_drew1) | exact HB.out))); rintro e w10 ⟨v191, rfl, ho0, hb⟩; refine ⟨_, rfl, ?_⟩; have n0_ := Aside0.mk (Kd.R_below (by (with_reducible repeat (first | apply Kd.R_alloc | apply Kd.R_drewN | apply Kd.R_drew)); exact HO189.out) hb); have n1_ := Aside0.mk (Kd.R_lower ho0 (below_size (by repeat (first | (with_reducible first | exact HB.out | apply below_alloc | apply pw_below_drewN | apply below_drew1) | exact HB.out)))); have n2_ := Aside0.mk (below_step (by repeat (first | (with_reducible first | exact HB.out | apply below_alloc | apply pw_below_drewN | apply below_drew1) | exact HB.out)) hb); clear HO189; clear HB; have HO189 := n0_; have HO192 := n1_; have HB := n2_; clear n0_ n1_ n2_; (try clear hb); (try clear hb2); (try clear hk); (try clear hi); (try clear ho0)) | ((with_reducible refine gate_dst (N := 5) rfl ?_); (try (refine gate_guard (by rfl) ?_; dsimp only)); refine box_event ?hg (N := 5) ?hd (cs := #[.int .i64 0, .int .i64 0, .int .i64 0]) (t := 28) ?hr ?_; (case hd => rfl); (case hg => rfl); (case hr => first | (go_simp; done) | (go_simp; rfl)); intro gb196 hg w11 hbox hb; have n0_ := Aside0.mk (Kd.R_below (by (with_reducible repeat (first | apply Kd.R_alloc | apply Kd.R_drewN | apply Kd.R_drew)); exact HO189.out) hb); have n1_ := Aside0.mk (Kd.R_below (by (with_reducible repeat (first | apply Kd.R_alloc | apply Kd.R_drewN | apply Kd.R_drew)); exact HO192.out) hb); have n2_ := Aside0.mk (below_step (by repeat (first | (with_reducible first | exact HB.out | apply below_alloc | apply pw_below_drewN | apply below_drew1) | exact HB.out)) hb); have n3_ := Aside0.mk (hbox); have n4_ := Aside0.mk ((by rw [hg]; exact (below_size (by repeat (first | (with_reducible first | exact HB.out | apply below_alloc | apply pw_below_drewN | apply below_drew1) | exact HB.out))) : w.heap.size ≤ gb196)); have n5_ := Aside0.mk ((by rw [hg]; exact (below_size (by repeat (first | (with_reducible first | exact HB.out | apply below_alloc | apply pw_below_drewN | apply below_drew1) | exact HB.out))) : w.heap.size ≤ gb196)); clear HO189; clear HO192; clear HB; have HO189 := n0_; have HO192 := n1_; have HB := n2_; have BK196 := n3_; have GW196 := n4_; have GE196 := n5_; clear n0_ n1_ n2_ n3_ n4_ n5_; clear hb hbox hg; have hcz12_0 : w11.cell? ⟨gb196, 0, none⟩ = some (.int .i64 0) := (blk_cell BK196.out 0).trans rfl; have hcz12_1 : w11.cell? ⟨gb196, 1, none⟩ = some (.int .i64 0) := (blk_cell BK196.out 1).trans rfl; have hcz12_2 : w11.cell? ⟨gb196, 2, none⟩ = some (.int .i64 0) := (blk_cell BK196.out 2).trans rfl; have hfz12_0 := blk_frozen BK196.out 0; have hfz12_1 := blk_frozen BK196.out 1; have hfz12_2 := blk_frozen BK196.out 2))
    (try simp only [Act.put, List.setIfInBounds_toArray, List.set_cons_zero, List.set_cons_succ])
    go_cut [29] (fun v29 wc => ∃ (kq : Nat) (x29_4 : Bool), v29 = .bool x29_4 ∧ Aside0 (palingslaw02_LexBytes.j0 kq a0 (strOfNums y187) t190 0 x29_4 t193 t194 t195 = some r) ∧ Aside0 (kq ≤ k) ∧ Aside0 (Kd.R k34 34 wc w.heap.size (fun _ => True) v191 t190) ∧ Aside0 (wc.heap[gb196]? = some (.cells #[.int .i64 t193, .int .i64 t194, .int .i64 t195] 28 (0, 0))) ∧ Aside0 (Below w.heap.size w wc))
    case first =>
      have H := HC5.out
      clear HC5
      by_cases c13 : a0 ≥ 97
      · rw [if_pos c13] at H
        have c13b0 : decide (97 ≤ a0) = true := decide_eq_true c13
        clear c13
        (first | rw [c13b0] | (simp only [i64_w, i32_w]; rw [c13b0]) | skip)
        by_cases c14 : a0 ≤ 122
        · rw [if_pos c14] at H
          have c14b0 : decide (a0 ≤ 122) = true := decide_eq_true c14
          clear c14
          have H' := Aside0.mk H
          clear H
          go_wp2
          go_meet
          case rel => exact ⟨_, (true), (by first | rfl | (simp; done) | (simp [*]; done)), H', ⟨by first | omega | exact Nat.le_refl _⟩, ⟨by (with_reducible repeat (first | apply Kd.R_alloc | apply Kd.R_drewN | apply Kd.R_drew)); exact Kd.R_mono (Kd.R_far (p := ⟨gb196, 2, none⟩) (Kd.R_far (p := ⟨gb196, 1, none⟩) (Kd.R_far (p := ⟨gb196, 0, none⟩) (Kd.R_types HO192.out BK196.out (by decide)) (fun _ hk => hk.2) (.int .i64 t193)) (fun _ hk => hk.2) (.int .i64 t194)) (fun _ hk => hk.2) (.int .i64 t195)) (fun _ hk => trivial)⟩, ⟨by (with_reducible repeat (first | refine blk_drewN ?_ _ | refine blk_drew ?_ | refine blk_alloc ?_ _)); refine blk_put (cs := #[.int .i64 t193, .int .i64 t194, .int .i64 0]) ?_ 2 _ rfl; (with_reducible repeat (first | refine blk_drewN ?_ _ | refine blk_drew ?_ | refine blk_alloc ?_ _)); refine blk_put (cs := #[.int .i64 t193, .int .i64 0, .int .i64 0]) ?_ 1 _ rfl; (with_reducible repeat (first | refine blk_drewN ?_ _ | refine blk_drew ?_ | refine blk_alloc ?_ _)); refine blk_put (cs := #[.int .i64 0, .int .i64 0, .int .i64 0]) ?_ 0 _ rfl; (with_reducible repeat (first | refine blk_drewN ?_ _ | refine blk_drew ?_ | refine blk_alloc ?_ _)); exact BK196.out⟩, ⟨by repeat (first | (with_reducible first | exact HB.out | apply below_alloc | apply pw_below_drewN | apply below_drew1 | refine below_set ?_ GE196.out) | exact HB.out)⟩⟩
        · rw [if_neg c14] at H
          have c14b0 : decide (a0 ≤ 122) = false := decide_eq_false c14
          clear c14
          by_cases c15 : a0 ≥ 65
          · rw [if_pos c15] at H
            have c15b0 : decide (65 ≤ a0) = true := decide_eq_true c15
            clear c15
            by_cases c16 : a0 ≤ 90
            · rw [if_pos c16] at H
              have c16b0 : decide (a0 ≤ 90) = true := decide_eq_true c16
              clear c16
              have H' := Aside0.mk H
              clear H
              go_wp2
              go_meet
              case rel => exact ⟨_, (true), (by first | rfl | (simp; done) | (simp [*]; done)), H', ⟨by first | omega | exact Nat.le_refl _⟩, ⟨by (with_reducible repeat (first | apply Kd.R_alloc | apply Kd.R_drewN | apply Kd.R_drew)); exact Kd.R_mono (Kd.R_far (p := ⟨gb196, 2, none⟩) (Kd.R_far (p := ⟨gb196, 1, none⟩) (Kd.R_far (p := ⟨gb196, 0, none⟩) (Kd.R_types HO192.out BK196.out (by decide)) (fun _ hk => hk.2) (.int .i64 t193)) (fun _ hk => hk.2) (.int .i64 t194)) (fun _ hk => hk.2) (.int .i64 t195)) (fun _ hk => trivial)⟩, ⟨by (with_reducible repeat (first | refine blk_drewN ?_ _ | refine blk_drew ?_ | refine blk_alloc ?_ _)); refine blk_put (cs := #[.int .i64 t193, .int .i64 t194, .int .i64 0]) ?_ 2 _ rfl; (with_reducible repeat (first | refine blk_drewN ?_ _ | refine blk_drew ?_ | refine blk_alloc ?_ _)); refine blk_put (cs := #[.int .i64 t193, .int .i64 0, .int .i64 0]) ?_ 1 _ rfl; (with_reducible repeat (first | refine blk_drewN ?_ _ | refine blk_drew ?_ | refine blk_alloc ?_ _)); refine blk_put (cs := #[.int .i64 0, .int .i64 0, .int .i64 0]) ?_ 0 _ rfl; (with_reducible repeat (first | refine blk_drewN ?_ _ | refine blk_drew ?_ | refine blk_alloc ?_ _)); exact BK196.out⟩, ⟨by repeat (first | (with_reducible first | exact HB.out | apply below_alloc | apply pw_below_drewN | apply below_drew1 | refine below_set ?_ GE196.out) | exact HB.out)⟩⟩
            · rw [if_neg c16] at H
              have c16b0 : decide (a0 ≤ 90) = false := decide_eq_false c16
              clear c16
              have H' := Aside0.mk H
              clear H
              go_wp2
              go_meet
              case rel => exact ⟨_, ((a0 == 95)), (by first | rfl | (simp; done) | (simp [*]; done)), H', ⟨by first | omega | exact Nat.le_refl _⟩, ⟨by (with_reducible repeat (first | apply Kd.R_alloc | apply Kd.R_drewN | apply Kd.R_drew)); exact Kd.R_mono (Kd.R_far (p := ⟨gb196, 2, none⟩) (Kd.R_far (p := ⟨gb196, 1, none⟩) (Kd.R_far (p := ⟨gb196, 0, none⟩) (Kd.R_types HO192.out BK196.out (by decide)) (fun _ hk => hk.2) (.int .i64 t193)) (fun _ hk => hk.2) (.int .i64 t194)) (fun _ hk => hk.2) (.int .i64 t195)) (fun _ hk => trivial)⟩, ⟨by (with_reducible repeat (first | refine blk_drewN ?_ _ | refine blk_drew ?_ | refine blk_alloc ?_ _)); refine blk_put (cs := #[.int .i64 t193, .int .i64 t194, .int .i64 0]) ?_ 2 _ rfl; (with_reducible repeat (first | refine blk_drewN ?_ _ | refine blk_drew ?_ | refine blk_alloc ?_ _)); refine blk_put (cs := #[.int .i64 t193, .int .i64 0, .int .i64 0]) ?_ 1 _ rfl; (with_reducible repeat (first | refine blk_drewN ?_ _ | refine blk_drew ?_ | refine blk_alloc ?_ _)); refine blk_put (cs := #[.int .i64 0, .int .i64 0, .int .i64 0]) ?_ 0 _ rfl; (with_reducible repeat (first | refine blk_drewN ?_ _ | refine blk_drew ?_ | refine blk_alloc ?_ _)); exact BK196.out⟩, ⟨by repeat (first | (with_reducible first | exact HB.out | apply below_alloc | apply pw_below_drewN | apply below_drew1 | refine below_set ?_ GE196.out) | exact HB.out)⟩⟩
          · rw [if_neg c15] at H
            have c15b0 : decide (65 ≤ a0) = false := decide_eq_false c15
            clear c15
            have H' := Aside0.mk H
            clear H
            go_wp2
            go_meet
            case rel => exact ⟨_, ((a0 == 95)), (by first | rfl | (simp; done) | (simp [*]; done)), H', ⟨by first | omega | exact Nat.le_refl _⟩, ⟨by (with_reducible repeat (first | apply Kd.R_alloc | apply Kd.R_drewN | apply Kd.R_drew)); exact Kd.R_mono (Kd.R_far (p := ⟨gb196, 2, none⟩) (Kd.R_far (p := ⟨gb196, 1, none⟩) (Kd.R_far (p := ⟨gb196, 0, none⟩) (Kd.R_types HO192.out BK196.out (by decide)) (fun _ hk => hk.2) (.int .i64 t193)) (fun _ hk => hk.2) (.int .i64 t194)) (fun _ hk => hk.2) (.int .i64 t195)) (fun _ hk => trivial)⟩, ⟨by (with_reducible repeat (first | refine blk_drewN ?_ _ | refine blk_drew ?_ | refine blk_alloc ?_ _)); refine blk_put (cs := #[.int .i64 t193, .int .i64 t194, .int .i64 0]) ?_ 2 _ rfl; (with_reducible repeat (first | refine blk_drewN ?_ _ | refine blk_drew ?_ | refine blk_alloc ?_ _)); refine blk_put (cs := #[.int .i64 t193, .int .i64 0, .int .i64 0]) ?_ 1 _ rfl; (with_reducible repeat (first | refine blk_drewN ?_ _ | refine blk_drew ?_ | refine blk_alloc ?_ _)); refine blk_put (cs := #[.int .i64 0, .int .i64 0, .int .i64 0]) ?_ 0 _ rfl; (with_reducible repeat (first | refine blk_drewN ?_ _ | refine blk_drew ?_ | refine blk_alloc ?_ _)); exact BK196.out⟩, ⟨by repeat (first | (with_reducible first | exact HB.out | apply below_alloc | apply pw_below_drewN | apply below_drew1 | refine below_set ?_ GE196.out) | exact HB.out)⟩⟩
      · rw [if_neg c13] at H
        have c13b0 : decide (97 ≤ a0) = false := decide_eq_false c13
        clear c13
        (first | rw [c13b0] | (simp only [i64_w, i32_w]; rw [c13b0]) | skip)
        by_cases c17 : a0 ≥ 65
        · rw [if_pos c17] at H
          have c17b0 : decide (65 ≤ a0) = true := decide_eq_true c17
          clear c17
          by_cases c18 : a0 ≤ 90
          · rw [if_pos c18] at H
            have c18b0 : decide (a0 ≤ 90) = true := decide_eq_true c18
            clear c18
            have H' := Aside0.mk H
            clear H
            go_wp2
            go_meet
            case rel => exact ⟨_, (true), (by first | rfl | (simp; done) | (simp [*]; done)), H', ⟨by first | omega | exact Nat.le_refl _⟩, ⟨by (with_reducible repeat (first | apply Kd.R_alloc | apply Kd.R_drewN | apply Kd.R_drew)); exact Kd.R_mono (Kd.R_far (p := ⟨gb196, 2, none⟩) (Kd.R_far (p := ⟨gb196, 1, none⟩) (Kd.R_far (p := ⟨gb196, 0, none⟩) (Kd.R_types HO192.out BK196.out (by decide)) (fun _ hk => hk.2) (.int .i64 t193)) (fun _ hk => hk.2) (.int .i64 t194)) (fun _ hk => hk.2) (.int .i64 t195)) (fun _ hk => trivial)⟩, ⟨by (with_reducible repeat (first | refine blk_drewN ?_ _ | refine blk_drew ?_ | refine blk_alloc ?_ _)); refine blk_put (cs := #[.int .i64 t193, .int .i64 t194, .int .i64 0]) ?_ 2 _ rfl; (with_reducible repeat (first | refine blk_drewN ?_ _ | refine blk_drew ?_ | refine blk_alloc ?_ _)); refine blk_put (cs := #[.int .i64 t193, .int .i64 0, .int .i64 0]) ?_ 1 _ rfl; (with_reducible repeat (first | refine blk_drewN ?_ _ | refine blk_drew ?_ | refine blk_alloc ?_ _)); refine blk_put (cs := #[.int .i64 0, .int .i64 0, .int .i64 0]) ?_ 0 _ rfl; (with_reducible repeat (first | refine blk_drewN ?_ _ | refine blk_drew ?_ | refine blk_alloc ?_ _)); exact BK196.out⟩, ⟨by repeat (first | (with_reducible first | exact HB.out | apply below_alloc | apply pw_below_drewN | apply below_drew1 | refine below_set ?_ GE196.out) | exact HB.out)⟩⟩
          · rw [if_neg c18] at H
            have c18b0 : decide (a0 ≤ 90) = false := decide_eq_false c18
            clear c18
            have H' := Aside0.mk H
            clear H
            go_wp2
            go_meet
            case rel => exact ⟨_, ((a0 == 95)), (by first | rfl | (simp; done) | (simp [*]; done)), H', ⟨by first | omega | exact Nat.le_refl _⟩, ⟨by (with_reducible repeat (first | apply Kd.R_alloc | apply Kd.R_drewN | apply Kd.R_drew)); exact Kd.R_mono (Kd.R_far (p := ⟨gb196, 2, none⟩) (Kd.R_far (p := ⟨gb196, 1, none⟩) (Kd.R_far (p := ⟨gb196, 0, none⟩) (Kd.R_types HO192.out BK196.out (by decide)) (fun _ hk => hk.2) (.int .i64 t193)) (fun _ hk => hk.2) (.int .i64 t194)) (fun _ hk => hk.2) (.int .i64 t195)) (fun _ hk => trivial)⟩, ⟨by (with_reducible repeat (first | refine blk_drewN ?_ _ | refine blk_drew ?_ | refine blk_alloc ?_ _)); refine blk_put (cs := #[.int .i64 t193, .int .i64 t194, .int .i64 0]) ?_ 2 _ rfl; (with_reducible repeat (first | refine blk_drewN ?_ _ | refine blk_drew ?_ | refine blk_alloc ?_ _)); refine blk_put (cs := #[.int .i64 t193, .int .i64 0, .int .i64 0]) ?_ 1 _ rfl; (with_reducible repeat (first | refine blk_drewN ?_ _ | refine blk_drew ?_ | refine blk_alloc ?_ _)); refine blk_put (cs := #[.int .i64 0, .int .i64 0, .int .i64 0]) ?_ 0 _ rfl; (with_reducible repeat (first | refine blk_drewN ?_ _ | refine blk_drew ?_ | refine blk_alloc ?_ _)); exact BK196.out⟩, ⟨by repeat (first | (with_reducible first | exact HB.out | apply below_alloc | apply pw_below_drewN | apply below_drew1 | refine below_set ?_ GE196.out) | exact HB.out)⟩⟩
        · rw [if_neg c17] at H
          have c17b0 : decide (65 ≤ a0) = false := decide_eq_false c17
          clear c17
          have H' := Aside0.mk H
          clear H
          go_wp2
          go_meet
          case rel => exact ⟨_, ((a0 == 95)), (by first | rfl | (simp; done) | (simp [*]; done)), H', ⟨by first | omega | exact Nat.le_refl _⟩, ⟨by (with_reducible repeat (first | apply Kd.R_alloc | apply Kd.R_drewN | apply Kd.R_drew)); exact Kd.R_mono (Kd.R_far (p := ⟨gb196, 2, none⟩) (Kd.R_far (p := ⟨gb196, 1, none⟩) (Kd.R_far (p := ⟨gb196, 0, none⟩) (Kd.R_types HO192.out BK196.out (by decide)) (fun _ hk => hk.2) (.int .i64 t193)) (fun _ hk => hk.2) (.int .i64 t194)) (fun _ hk => hk.2) (.int .i64 t195)) (fun _ hk => trivial)⟩, ⟨by (with_reducible repeat (first | refine blk_drewN ?_ _ | refine blk_drew ?_ | refine blk_alloc ?_ _)); refine blk_put (cs := #[.int .i64 t193, .int .i64 t194, .int .i64 0]) ?_ 2 _ rfl; (with_reducible repeat (first | refine blk_drewN ?_ _ | refine blk_drew ?_ | refine blk_alloc ?_ _)); refine blk_put (cs := #[.int .i64 t193, .int .i64 0, .int .i64 0]) ?_ 1 _ rfl; (with_reducible repeat (first | refine blk_drewN ?_ _ | refine blk_drew ?_ | refine blk_alloc ?_ _)); refine blk_put (cs := #[.int .i64 0, .int .i64 0, .int .i64 0]) ?_ 0 _ rfl; (with_reducible repeat (first | refine blk_drewN ?_ _ | refine blk_drew ?_ | refine blk_alloc ?_ _)); exact BK196.out⟩, ⟨by repeat (first | (with_reducible first | exact HB.out | apply below_alloc | apply pw_below_drewN | apply below_drew1 | refine below_set ?_ GE196.out) | exact HB.out)⟩⟩
    case rest =>
      clear HC5
      try clear c1
      try clear p2
      try clear c3
      try clear c4
      try clear c9
      try clear hcv9
      try clear c10
      try clear c13
      try clear c13b0
      try clear c14
      try clear c14b0
      try clear c15
      try clear c15b0
      try clear c16
      try clear c16b0
      try clear c17
      try clear c17b0
      try clear c18
      try clear c18b0
      try clear hcz12_0
      try clear hcz12_1
      try clear hcz12_2
      try clear hfz12_0
      try clear hfz12_1
      try clear hfz12_2
      obtain ⟨kq, x29_4, rfl, HA, HJ4, HO_4, BK196, HB⟩ := hcut
      cases kq with
      | zero => exact absurd HA.out (by simp [palingslaw02_LexBytes.j0])
      | succ kj4 =>
        have H := HA.out
        clear HA
        simp only [palingslaw02_LexBytes.j0] at H
        by_cases c19 : x29_4 = true
        · subst c19
          have H1 : (if 1 = 0 then (if (t193 == 10 && ((t194 == 1 && (t195 == 1)))) = true then (some ((t190.length : Int) == 0)) else (some false)) else (if (t193 == 0 && ((t194 == 0 && (t195 == 0)))) = true then (if (t190.length : Int) = 2 then (if 0 < (t190.length : Int) then (if ((rd_T34 t190 0).f0) = 1 then (some (((rd_T34 t190 0).f1).toList == (strOfNums y187).toList)) else (some false)) else (none)) else (some false)) else (some false))) = some r := by rw [if_pos rfl] at H; exact H
          clear H
          have H := H1
          clear H1
          by_cases c20 : 1 = 0
          · rw [if_pos c20] at H
            have c20b0 : (1 == 0) = true := beq_iff_eq.mpr c20
            have c20b1 : (1 != 0) = false := bne_eq_false_iff_eq.mpr c20
            clear c20
            by_cases c21 : (t193 == 10 && ((t194 == 1 && (t195 == 1)))) = true
            · rw [if_pos c21] at H
              have c21b0 : (t193 == 10 && ((t194 == 1 && (t195 == 1)))) = true := c21
              (try (have c21b1 : decide (t193 = 10 && ((t194 == 1 && (t195 == 1)))) = true := by simpa using c21))
              (try (have c21b2 : (t193 == 10 && ((t194 == 1 && (t195 == 1)))) = true := by simpa using c21))
              clear c21
              obtain rfl := Option.some.inj H
              have hcz22_0 : wc.cell? ⟨gb196, 0, none⟩ = some (.int .i64 t193) := (blk_cell BK196.out 0).trans rfl
              have hcz22_1 : wc.cell? ⟨gb196, 1, none⟩ = some (.int .i64 t194) := (blk_cell BK196.out 1).trans rfl
              have hcz22_2 : wc.cell? ⟨gb196, 2, none⟩ = some (.int .i64 t195) := (blk_cell BK196.out 2).trans rfl
              have hfz22_0 := blk_frozen BK196.out 0
              have hfz22_1 := blk_frozen BK196.out 1
              have hfz22_2 := blk_frozen BK196.out 2
              obtain ⟨Ao23, co23, eo23⟩ := Kd.R_slice HO_4.out
              subst eo23
              go_wp2
              all_goals
                go_ret
                exact ⟨by first | rfl | (simp [errW_none, errW_some] <;> rfl) | (simp [*, errW_none, errW_some] <;> rfl) | (simp_all; done), by repeat (first | (with_reducible first | exact HB.out | apply below_alloc | apply pw_below_drewN | apply below_drew1 | refine below_set ?_ GE196.out) | exact HB.out)⟩
            · rw [if_neg c21] at H
              have c21b0 : (t193 == 10 && ((t194 == 1 && (t195 == 1)))) = false := by simpa using c21
              (try (have c21b1 : decide (t193 = 10 && ((t194 == 1 && (t195 == 1)))) = false := by simpa using c21))
              (try (have c21b2 : (t193 == 10 && ((t194 == 1 && (t195 == 1)))) = false := by simpa using c21))
              (try (have c21b3 : ¬ (t193 = 10 && ((t194 == 1 && (t195 == 1)))) := by simpa using c21))
              clear c21
              obtain rfl := Option.some.inj H
              have hcz24_0 : wc.cell? ⟨gb196, 0, none⟩ = some (.int .i64 t193) := (blk_cell BK196.out 0).trans rfl
              have hcz24_1 : wc.cell? ⟨gb196, 1, none⟩ = some (.int .i64 t194) := (blk_cell BK196.out 1).trans rfl
              have hcz24_2 : wc.cell? ⟨gb196, 2, none⟩ = some (.int .i64 t195) := (blk_cell BK196.out 2).trans rfl
              have hfz24_0 := blk_frozen BK196.out 0
              have hfz24_1 := blk_frozen BK196.out 1
              have hfz24_2 := blk_frozen BK196.out 2
              go_wp2
              all_goals
                go_ret
                exact ⟨by first | rfl | (simp [errW_none, errW_some] <;> rfl) | (simp [*, errW_none, errW_some] <;> rfl) | (simp_all; done), by repeat (first | (with_reducible first | exact HB.out | apply below_alloc | apply pw_below_drewN | apply below_drew1 | refine below_set ?_ GE196.out) | exact HB.out)⟩
          · rw [if_neg c20] at H
            have c20b0 : (1 == 0) = false := beq_eq_false_iff_ne.mpr c20
            have c20b1 : (1 != 0) = true := bne_iff_ne.mpr c20
            by_cases c25 : (t193 == 0 && ((t194 == 0 && (t195 == 0)))) = true
            · rw [if_pos c25] at H
              have c25b0 : (t193 == 0 && ((t194 == 0 && (t195 == 0)))) = true := c25
              (try (have c25b1 : decide (t193 = 0 && ((t194 == 0 && (t195 == 0)))) = true := by simpa using c25))
              (try (have c25b2 : (t193 == 0 && ((t194 == 0 && (t195 == 0)))) = true := by simpa using c25))
              clear c25
              by_cases c26 : (t190.length : Int) = 2
              · rw [if_pos c26] at H
                have c26b0 : ((t190.length : Int) == 2) = true := beq_iff_eq.mpr c26
                have c26b1 : ((t190.length : Int) != 2) = false := bne_eq_false_iff_eq.mpr c26
                clear c26
                by_cases c27 : 0 < (t190.length : Int)
                · rw [if_pos c27] at H
                  have c27b0 : decide (0 < (t190.length : Int)) = true := decide_eq_true c27
                  have c27b1 : decide (0 < t190.length) = true := decide_eq_true (by omega)
                  clear c27
                  by_cases c28 : ((rd_T34 t190 0).f0) = 1
                  · rw [if_pos c28] at H
                    have c28b0 : (((rd_T34 t190 0).f0) == 1) = true := beq_iff_eq.mpr c28
                    have c28b1 : (((rd_T34 t190 0).f0) != 1) = false := bne_eq_false_iff_eq.mpr c28
                    clear c28
                    obtain rfl := Option.some.inj H
                    have hcz29_0 : wc.cell? ⟨gb196, 0, none⟩ = some (.int .i64 t193) := (blk_cell BK196.out 0).trans rfl
                    have hcz29_1 : wc.cell? ⟨gb196, 1, none⟩ = some (.int .i64 t194) := (blk_cell BK196.out 1).trans rfl
                    have hcz29_2 : wc.cell? ⟨gb196, 2, none⟩ = some (.int .i64 t195) := (blk_cell BK196.out 2).trans rfl
                    have hfz29_0 := blk_frozen BK196.out 0
                    have hfz29_1 := blk_frozen BK196.out 1
                    have hfz29_2 := blk_frozen BK196.out 2
                    obtain ⟨Ao30, co30, eo30⟩ := Kd.R_slice HO_4.out
                    subst eo30
                    have p197 : 0 ≤ (0 : Int) := (by omega)
                    have q197 : 0 < (t190.length : Int) := of_decide_eq_true (by first | (with_reducible assumption) | assumption)
                    obtain ⟨ad197, e197, hx197_0, hx197_1, hx197_2, hx197_3, hx197_4⟩ := at_T34 (Kd.R_reads' HO_4.out).2.2 0 p197 q197
                    cases e197
                    have qi197 : (0 < t190.length) = True := eq_true (by omega)
                    (try rw [show ((0 : Int)).toNat = 0 from rfl] at hx197_0)
                    (try rw [show 0 * 5 = 0 from rfl] at hx197_0)
                    (try rw [Addr.add_zero'] at hx197_0)
                    (try rw [show ((0 : Int)).toNat = 0 from rfl] at hx197_1)
                    (try rw [show 0 * 5 = 0 from rfl] at hx197_1)
                    (try rw [Addr.add_zero'] at hx197_1)
                    (try rw [show ((0 : Int)).toNat = 0 from rfl] at hx197_2)
                    (try rw [show 0 * 5 = 0 from rfl] at hx197_2)
                    (try rw [Addr.add_zero'] at hx197_2)
                    (try rw [show ((0 : Int)).toNat = 0 from rfl] at hx197_3)
                    (try rw [show 0 * 5 = 0 from rfl] at hx197_3)
                    (try rw [Addr.add_zero'] at hx197_3)
                    (try rw [show ((0 : Int)).toNat = 0 from rfl] at hx197_4)
                    (try rw [show 0 * 5 = 0 from rfl] at hx197_4)
                    (try rw [Addr.add_zero'] at hx197_4)
                    replace p197 := eq_true p197
                    replace q197 := eq_true q197
                    have p198 : 0 ≤ (0 : Int) := (by omega)
                    have q198 : 0 < (t190.length : Int) := of_decide_eq_true (by first | (with_reducible assumption) | assumption)
                    obtain ⟨ad198, e198, hx198_0, hx198_1, hx198_2, hx198_3, hx198_4⟩ := at_T34 (Kd.R_reads' HO_4.out).2.2 0 p198 q198
                    obtain rfl : ad197 = ad198 := (by injection e198)
                    have qi198 : (0 < t190.length) = True := eq_true (by omega)
                    (try rw [show ((0 : Int)).toNat = 0 from rfl] at hx198_0)
                    (try rw [show 0 * 5 = 0 from rfl] at hx198_0)
                    (try rw [Addr.add_zero'] at hx198_0)
                    (try rw [show ((0 : Int)).toNat = 0 from rfl] at hx198_1)
                    (try rw [show 0 * 5 = 0 from rfl] at hx198_1)
                    (try rw [Addr.add_zero'] at hx198_1)
                    (try rw [show ((0 : Int)).toNat = 0 from rfl] at hx198_2)
                    (try rw [show 0 * 5 = 0 from rfl] at hx198_2)
                    (try rw [Addr.add_zero'] at hx198_2)
                    (try rw [show ((0 : Int)).toNat = 0 from rfl] at hx198_3)
                    (try rw [show 0 * 5 = 0 from rfl] at hx198_3)
                    (try rw [Addr.add_zero'] at hx198_3)
                    (try rw [show ((0 : Int)).toNat = 0 from rfl] at hx198_4)
                    (try rw [show 0 * 5 = 0 from rfl] at hx198_4)
                    (try rw [Addr.add_zero'] at hx198_4)
                    replace p198 := eq_true p198
                    replace q198 := eq_true q198
                    go_wp2
                    all_goals
                      go_ret
                      exact ⟨by first | rfl | (simp [errW_none, errW_some] <;> rfl) | (simp [*, errW_none, errW_some] <;> rfl) | (simp_all; done), by repeat (first | (with_reducible first | exact HB.out | apply below_alloc | apply pw_below_drewN | apply below_drew1 | refine below_set ?_ GE196.out) | exact HB.out)⟩
                  · rw [if_neg c28] at H
                    have c28b0 : (((rd_T34 t190 0).f0) == 1) = false := beq_eq_false_iff_ne.mpr c28
                    have c28b1 : (((rd_T34 t190 0).f0) != 1) = true := bne_iff_ne.mpr c28
                    obtain rfl := Option.some.inj H
                    have hcz31_0 : wc.cell? ⟨gb196, 0, none⟩ = some (.int .i64 t193) := (blk_cell BK196.out 0).trans rfl
                    have hcz31_1 : wc.cell? ⟨gb196, 1, none⟩ = some (.int .i64 t194) := (blk_cell BK196.out 1).trans rfl
                    have hcz31_2 : wc.cell? ⟨gb196, 2, none⟩ = some (.int .i64 t195) := (blk_cell BK196.out 2).trans rfl
                    have hfz31_0 := blk_frozen BK196.out 0
                    have hfz31_1 := blk_frozen BK196.out 1
                    have hfz31_2 := blk_frozen BK196.out 2
                    obtain ⟨Ao32, co32, eo32⟩ := Kd.R_slice HO_4.out
                    subst eo32
                    have p197 : 0 ≤ (0 : Int) := (by omega)
                    have q197 : 0 < (t190.length : Int) := of_decide_eq_true (by first | (with_reducible assumption) | assumption)
                    obtain ⟨ad197, e197, hx197_0, hx197_1, hx197_2, hx197_3, hx197_4⟩ := at_T34 (Kd.R_reads' HO_4.out).2.2 0 p197 q197
                    cases e197
                    have qi197 : (0 < t190.length) = True := eq_true (by omega)
                    (try rw [show ((0 : Int)).toNat = 0 from rfl] at hx197_0)
                    (try rw [show 0 * 5 = 0 from rfl] at hx197_0)
                    (try rw [Addr.add_zero'] at hx197_0)
                    (try rw [show ((0 : Int)).toNat = 0 from rfl] at hx197_1)
                    (try rw [show 0 * 5 = 0 from rfl] at hx197_1)
                    (try rw [Addr.add_zero'] at hx197_1)
                    (try rw [show ((0 : Int)).toNat = 0 from rfl] at hx197_2)
                    (try rw [show 0 * 5 = 0 from rfl] at hx197_2)
                    (try rw [Addr.add_zero'] at hx197_2)
                    (try rw [show ((0 : Int)).toNat = 0 from rfl] at hx197_3)
                    (try rw [show 0 * 5 = 0 from rfl] at hx197_3)
                    (try rw [Addr.add_zero'] at hx197_3)
                    (try rw [show ((0 : Int)).toNat = 0 from rfl] at hx197_4)
                    (try rw [show 0 * 5 = 0 from rfl] at hx197_4)
                    (try rw [Addr.add_zero'] at hx197_4)
                    replace p197 := eq_true p197
                    replace q197 := eq_true q197
                    go_wp2
                    all_goals
                      go_ret
                      exact ⟨by first | rfl | (simp [errW_none, errW_some] <;> rfl) | (simp [*, errW_none, errW_some] <;> rfl) | (simp_all; done), by repeat (first | (with_reducible first | exact HB.out | apply below_alloc | apply pw_below_drewN | apply below_drew1 | refine below_set ?_ GE196.out) | exact HB.out)⟩
                · rw [if_neg c27] at H
                  exact absurd H (by simp)
              · rw [if_neg c26] at H
                have c26b0 : ((t190.length : Int) == 2) = false := beq_eq_false_iff_ne.mpr c26
                have c26b1 : ((t190.length : Int) != 2) = true := bne_iff_ne.mpr c26
                obtain rfl := Option.some.inj H
                have hcz33_0 : wc.cell? ⟨gb196, 0, none⟩ = some (.int .i64 t193) := (blk_cell BK196.out 0).trans rfl
                have hcz33_1 : wc.cell? ⟨gb196, 1, none⟩ = some (.int .i64 t194) := (blk_cell BK196.out 1).trans rfl
                have hcz33_2 : wc.cell? ⟨gb196, 2, none⟩ = some (.int .i64 t195) := (blk_cell BK196.out 2).trans rfl
                have hfz33_0 := blk_frozen BK196.out 0
                have hfz33_1 := blk_frozen BK196.out 1
                have hfz33_2 := blk_frozen BK196.out 2
                obtain ⟨Ao34, co34, eo34⟩ := Kd.R_slice HO_4.out
                subst eo34
                go_wp2
                all_goals
                  go_ret
                  exact ⟨by first | rfl | (simp [errW_none, errW_some] <;> rfl) | (simp [*, errW_none, errW_some] <;> rfl) | (simp_all; done), by repeat (first | (with_reducible first | exact HB.out | apply below_alloc | apply pw_below_drewN | apply below_drew1 | refine below_set ?_ GE196.out) | exact HB.out)⟩
            · rw [if_neg c25] at H
              have c25b0 : (t193 == 0 && ((t194 == 0 && (t195 == 0)))) = false := by simpa using c25
              (try (have c25b1 : decide (t193 = 0 && ((t194 == 0 && (t195 == 0)))) = false := by simpa using c25))
              (try (have c25b2 : (t193 == 0 && ((t194 == 0 && (t195 == 0)))) = false := by simpa using c25))
              (try (have c25b3 : ¬ (t193 = 0 && ((t194 == 0 && (t195 == 0)))) := by simpa using c25))
              clear c25
              obtain rfl := Option.some.inj H
              have hcz35_0 : wc.cell? ⟨gb196, 0, none⟩ = some (.int .i64 t193) := (blk_cell BK196.out 0).trans rfl
              have hcz35_1 : wc.cell? ⟨gb196, 1, none⟩ = some (.int .i64 t194) := (blk_cell BK196.out 1).trans rfl
              have hcz35_2 : wc.cell? ⟨gb196, 2, none⟩ = some (.int .i64 t195) := (blk_cell BK196.out 2).trans rfl
              have hfz35_0 := blk_frozen BK196.out 0
              have hfz35_1 := blk_frozen BK196.out 1
              have hfz35_2 := blk_frozen BK196.out 2
              go_wp2
              all_goals
                go_ret
                exact ⟨by first | rfl | (simp [errW_none, errW_some] <;> rfl) | (simp [*, errW_none, errW_some] <;> rfl) | (simp_all; done), by repeat (first | (with_reducible first | exact HB.out | apply below_alloc | apply pw_below_drewN | apply below_drew1 | refine below_set ?_ GE196.out) | exact HB.out)⟩
        · replace c19 := Bool.eq_false_iff.mpr c19
          subst c19
          have H1 : (if a0 ≥ 48 then (palingslaw02_LexBytes.j1 kj4 a0 (strOfNums y187) t190 0 (decide (a0 ≤ 57)) t193 t194 t195) else (palingslaw02_LexBytes.j1 kj4 a0 (strOfNums y187) t190 0 false t193 t194 t195)) = some r := by rw [if_neg (show ¬ (false = true) by decide)] at H; exact H
          clear H
          have H := H1
          clear H1
          have HC36 := Aside0.mk H
          clear H
          go_upto_region 14 with (fail)
          go_cut [48] (fun v48 wc => ∃ (kq : Nat) (x48_35 : Bool), v48 = .bool x48_35 ∧ Aside0 (palingslaw02_LexBytes.j1 kq a0 (strOfNums y187) t190 0 x48_35 t193 t194 t195 = some r) ∧ Aside0 (kq ≤ kj4) ∧ Aside0 (Kd.R k34 34 wc w.heap.size (fun _ => True) v191 t190) ∧ Aside0 (wc.heap[gb196]? = some (.cells #[.int .i64 t193, .int .i64 t194, .int .i64 t195] 28 (0, 0))) ∧ Aside0 (Below w.heap.size w wc))
          case first =>
            have H := HC36.out
            clear HC36
            by_cases c37 : a0 ≥ 48
            · rw [if_pos c37] at H
              have c37b0 : decide (48 ≤ a0) = true := decide_eq_true c37
              clear c37
              (first | rw [c37b0] | (simp only [i64_w, i32_w]; rw [c37b0]) | skip)
              have H' := Aside0.mk H
              clear H
              go_wp2
              go_meet
              case rel => exact ⟨_, (decide (a0 ≤ 57)), (by first | rfl | (simp; done) | (simp [*]; done)), H', ⟨by have := HJ4.out; first | omega | exact Nat.le_refl _⟩, ⟨by (with_reducible repeat (first | apply Kd.R_alloc | apply Kd.R_drewN | apply Kd.R_drew)); exact HO_4.out⟩, ⟨by (with_reducible repeat (first | refine blk_drewN ?_ _ | refine blk_drew ?_ | refine blk_alloc ?_ _)); exact BK196.out⟩, ⟨by repeat (first | (with_reducible first | exact HB.out | apply below_alloc | apply pw_below_drewN | apply below_drew1 | refine below_set ?_ GE196.out) | exact HB.out)⟩⟩
            · rw [if_neg c37] at H
              have c37b0 : decide (48 ≤ a0) = false := decide_eq_false c37
              clear c37
              (first | rw [c37b0] | (simp only [i64_w, i32_w]; rw [c37b0]) | skip)
              have H' := Aside0.mk H
              clear H
              go_wp2
              go_meet
              case rel => exact ⟨_, (false), (by first | rfl | (simp; done) | (simp [*]; done)), H', ⟨by have := HJ4.out; first | omega | exact Nat.le_refl _⟩, ⟨by (with_reducible repeat (first | apply Kd.R_alloc | apply Kd.R_drewN | apply Kd.R_drew)); exact HO_4.out⟩, ⟨by (with_reducible repeat (first | refine blk_drewN ?_ _ | refine blk_drew ?_ | refine blk_alloc ?_ _)); exact BK196.out⟩, ⟨by repeat (first | (with_reducible first | exact HB.out | apply below_alloc | apply pw_below_drewN | apply below_drew1 | refine below_set ?_ GE196.out) | exact HB.out)⟩⟩
          case rest =>
            clear HC36
            try clear c1
            try clear p1
            try clear q1
            try clear hx1
            try clear qi1
            try clear c2
            try clear p2
            try clear c3
            try clear c4
            try clear c9
            try clear hcv9
            try clear c10
            try clear c13
            try clear c13b0
            try clear c14
            try clear c14b0
            try clear c15
            try clear c15b0
            try clear c16
            try clear c16b0
            try clear c17
            try clear c17b0
            try clear c18
            try clear c18b0
            try clear c19
            try clear p19
            try clear q19
            try clear hx19
            try clear qi19
            try clear c20
            try clear c20b0
            try clear c20b1
            try clear c21
            try clear c21b0
            try clear c21b1
            try clear c21b2
            try clear c25
            try clear c25b0
            try clear c25b1
            try clear c25b2
            try clear c26
            try clear c26b0
            try clear c26b1
            try clear c27
            try clear c27b0
            try clear c27b1
            try clear c28
            try clear c28b0
            try clear c28b1
            try clear c37
            try clear c37b0
            try clear hcz12_0
            try clear hcz12_1
            try clear hcz12_2
            try clear hcz22_0
            try clear hcz22_1
            try clear hcz22_2
            try clear hcz24_0
            try clear hcz24_1
            try clear hcz24_2
            try clear hcz29_0
            try clear hcz29_1
            try clear hcz29_2
            try clear hcz31_0
            try clear hcz31_1
            try clear hcz31_2
            try clear hcz33_0
            try clear hcz33_1
            try clear hcz33_2
            try clear hcz35_0
            try clear hcz35_1
            try clear hcz35_2
            try clear hfz12_0
            try clear hfz12_1
            try clear hfz12_2
            try clear hfz22_0
            try clear hfz22_1
            try clear hfz22_2
            try clear hfz24_0
            try clear hfz24_1
            try clear hfz24_2
            try clear hfz29_0
            try clear hfz29_1
            try clear hfz29_2
            try clear hfz31_0
            try clear hfz31_1
            try clear hfz31_2
            try clear hfz33_0
            try clear hfz33_1
            try clear hfz33_2
            try clear hfz35_0
            try clear hfz35_1
            try clear hfz35_2
            try clear hx197_0
            try clear hx197_1
            try clear hx197_2
            try clear hx197_3
            try clear hx197_4
            try clear hx198_0
            try clear hx198_1
            try clear hx198_2
            try clear hx198_3
            try clear hx198_4
            try clear p197
            try clear p198
            try clear p2
            try clear q197
            try clear q198
            obtain ⟨kq, x48_35, rfl, HA, HJ35, HO_4, BK196, HB⟩ := hcut
            cases kq with
            | zero => exact absurd HA.out (by simp [palingslaw02_LexBytes.j1])
            | succ kj35 =>
              have H := HA.out
              clear HA
              simp only [palingslaw02_LexBytes.j1] at H
              by_cases c38 : x48_35 = true
              · subst c38
                have H1 : (if 2 = 0 then (if (t193 == 10 && ((t194 == 1 && (t195 == 1)))) = true then (some ((t190.length : Int) == 0)) else (some false)) else (if (t193 == 0 && ((t194 == 0 && (t195 == 0)))) = true then (if (t190.length : Int) = 2 then (if 0 < (t190.length : Int) then (if ((rd_T34 t190 0).f0) = 2 then (some (((rd_T34 t190 0).f1).toList == (strOfNums y187).toList)) else (some false)) else (none)) else (some false)) else (some false))) = some r := by rw [if_pos rfl] at H; exact H
                clear H
                have H := H1
                clear H1
                by_cases c39 : 2 = 0
                · rw [if_pos c39] at H
                  have c39b0 : (2 == 0) = true := beq_iff_eq.mpr c39
                  have c39b1 : (2 != 0) = false := bne_eq_false_iff_eq.mpr c39
                  clear c39
                  by_cases c40 : (t193 == 10 && ((t194 == 1 && (t195 == 1)))) = true
                  · rw [if_pos c40] at H
                    have c40b0 : (t193 == 10 && ((t194 == 1 && (t195 == 1)))) = true := c40
                    (try (have c40b1 : decide (t193 = 10 && ((t194 == 1 && (t195 == 1)))) = true := by simpa using c40))
                    (try (have c40b2 : (t193 == 10 && ((t194 == 1 && (t195 == 1)))) = true := by simpa using c40))
                    clear c40
                    obtain rfl := Option.some.inj H
                    have hcz41_0 : wc.cell? ⟨gb196, 0, none⟩ = some (.int .i64 t193) := (blk_cell BK196.out 0).trans rfl
                    have hcz41_1 : wc.cell? ⟨gb196, 1, none⟩ = some (.int .i64 t194) := (blk_cell BK196.out 1).trans rfl
                    have hcz41_2 : wc.cell? ⟨gb196, 2, none⟩ = some (.int .i64 t195) := (blk_cell BK196.out 2).trans rfl
                    have hfz41_0 := blk_frozen BK196.out 0
                    have hfz41_1 := blk_frozen BK196.out 1
                    have hfz41_2 := blk_frozen BK196.out 2
                    obtain ⟨Ao42, co42, eo42⟩ := Kd.R_slice HO_4.out
                    subst eo42
                    go_wp2
                    all_goals
                      go_ret
                      exact ⟨by first | rfl | (simp [errW_none, errW_some] <;> rfl) | (simp [*, errW_none, errW_some] <;> rfl) | (simp_all; done), by repeat (first | (with_reducible first | exact HB.out | apply below_alloc | apply pw_below_drewN | apply below_drew1 | refine below_set ?_ GE196.out) | exact HB.out)⟩
                  · rw [if_neg c40] at H
                    have c40b0 : (t193 == 10 && ((t194 == 1 && (t195 == 1)))) = false := by simpa using c40
                    (try (have c40b1 : decide (t193 = 10 && ((t194 == 1 && (t195 == 1)))) = false := by simpa using c40))
                    (try (have c40b2 : (t193 == 10 && ((t194 == 1 && (t195 == 1)))) = false := by simpa using c40))
                    (try (have c40b3 : ¬ (t193 = 10 && ((t194 == 1 && (t195 == 1)))) := by simpa using c40))
                    clear c40
                    obtain rfl := Option.some.inj H
                    have hcz43_0 : wc.cell? ⟨gb196, 0, none⟩ = some (.int .i64 t193) := (blk_cell BK196.out 0).trans rfl
                    have hcz43_1 : wc.cell? ⟨gb196, 1, none⟩ = some (.int .i64 t194) := (blk_cell BK196.out 1).trans rfl
                    have hcz43_2 : wc.cell? ⟨gb196, 2, none⟩ = some (.int .i64 t195) := (blk_cell BK196.out 2).trans rfl
                    have hfz43_0 := blk_frozen BK196.out 0
                    have hfz43_1 := blk_frozen BK196.out 1
                    have hfz43_2 := blk_frozen BK196.out 2
                    go_wp2
                    all_goals
                      go_ret
                      exact ⟨by first | rfl | (simp [errW_none, errW_some] <;> rfl) | (simp [*, errW_none, errW_some] <;> rfl) | (simp_all; done), by repeat (first | (with_reducible first | exact HB.out | apply below_alloc | apply pw_below_drewN | apply below_drew1 | refine below_set ?_ GE196.out) | exact HB.out)⟩
                · rw [if_neg c39] at H
                  have c39b0 : (2 == 0) = false := beq_eq_false_iff_ne.mpr c39
                  have c39b1 : (2 != 0) = true := bne_iff_ne.mpr c39
                  by_cases c44 : (t193 == 0 && ((t194 == 0 && (t195 == 0)))) = true
                  · rw [if_pos c44] at H
                    have c44b0 : (t193 == 0 && ((t194 == 0 && (t195 == 0)))) = true := c44
                    (try (have c44b1 : decide (t193 = 0 && ((t194 == 0 && (t195 == 0)))) = true := by simpa using c44))
                    (try (have c44b2 : (t193 == 0 && ((t194 == 0 && (t195 == 0)))) = true := by simpa using c44))
                    clear c44
                    by_cases c45 : (t190.length : Int) = 2
                    · rw [if_pos c45] at H
                      have c45b0 : ((t190.length : Int) == 2) = true := beq_iff_eq.mpr c45
                      have c45b1 : ((t190.length : Int) != 2) = false := bne_eq_false_iff_eq.mpr c45
                      clear c45
                      by_cases c46 : 0 < (t190.length : Int)
                      · rw [if_pos c46] at H
                        have c46b0 : decide (0 < (t190.length : Int)) = true := decide_eq_true c46
                        have c46b1 : decide (0 < t190.length) = true := decide_eq_true (by omega)
                        clear c46
                        by_cases c47 : ((rd_T34 t190 0).f0) = 2
                        · rw [if_pos c47] at H
                          have c47b0 : (((rd_T34 t190 0).f0) == 2) = true := beq_iff_eq.mpr c47
                          have c47b1 : (((rd_T34 t190 0).f0) != 2) = false := bne_eq_false_iff_eq.mpr c47
                          clear c47
                          obtain rfl := Option.some.inj H
                          have hcz48_0 : wc.cell? ⟨gb196, 0, none⟩ = some (.int .i64 t193) := (blk_cell BK196.out 0).trans rfl
                          have hcz48_1 : wc.cell? ⟨gb196, 1, none⟩ = some (.int .i64 t194) := (blk_cell BK196.out 1).trans rfl
                          have hcz48_2 : wc.cell? ⟨gb196, 2, none⟩ = some (.int .i64 t195) := (blk_cell BK196.out 2).trans rfl
                          have hfz48_0 := blk_frozen BK196.out 0
                          have hfz48_1 := blk_frozen BK196.out 1
                          have hfz48_2 := blk_frozen BK196.out 2
                          obtain ⟨Ao49, co49, eo49⟩ := Kd.R_slice HO_4.out
                          subst eo49
                          have p199 : 0 ≤ (0 : Int) := (by omega)
                          have q199 : 0 < (t190.length : Int) := of_decide_eq_true (by first | (with_reducible assumption) | assumption)
                          obtain ⟨ad199, e199, hx199_0, hx199_1, hx199_2, hx199_3, hx199_4⟩ := at_T34 (Kd.R_reads' HO_4.out).2.2 0 p199 q199
                          cases e199
                          have qi199 : (0 < t190.length) = True := eq_true (by omega)
                          (try rw [show ((0 : Int)).toNat = 0 from rfl] at hx199_0)
                          (try rw [show 0 * 5 = 0 from rfl] at hx199_0)
                          (try rw [Addr.add_zero'] at hx199_0)
                          (try rw [show ((0 : Int)).toNat = 0 from rfl] at hx199_1)
                          (try rw [show 0 * 5 = 0 from rfl] at hx199_1)
                          (try rw [Addr.add_zero'] at hx199_1)
                          (try rw [show ((0 : Int)).toNat = 0 from rfl] at hx199_2)
                          (try rw [show 0 * 5 = 0 from rfl] at hx199_2)
                          (try rw [Addr.add_zero'] at hx199_2)
                          (try rw [show ((0 : Int)).toNat = 0 from rfl] at hx199_3)
                          (try rw [show 0 * 5 = 0 from rfl] at hx199_3)
                          (try rw [Addr.add_zero'] at hx199_3)
                          (try rw [show ((0 : Int)).toNat = 0 from rfl] at hx199_4)
                          (try rw [show 0 * 5 = 0 from rfl] at hx199_4)
                          (try rw [Addr.add_zero'] at hx199_4)
                          replace p199 := eq_true p199
                          replace q199 := eq_true q199
                          have p200 : 0 ≤ (0 : Int) := (by omega)
                          have q200 : 0 < (t190.length : Int) := of_decide_eq_true (by first | (with_reducible assumption) | assumption)
                          obtain ⟨ad200, e200, hx200_0, hx200_1, hx200_2, hx200_3, hx200_4⟩ := at_T34 (Kd.R_reads' HO_4.out).2.2 0 p200 q200
                          obtain rfl : ad199 = ad200 := (by injection e200)
                          have qi200 : (0 < t190.length) = True := eq_true (by omega)
                          (try rw [show ((0 : Int)).toNat = 0 from rfl] at hx200_0)
                          (try rw [show 0 * 5 = 0 from rfl] at hx200_0)
                          (try rw [Addr.add_zero'] at hx200_0)
                          (try rw [show ((0 : Int)).toNat = 0 from rfl] at hx200_1)
                          (try rw [show 0 * 5 = 0 from rfl] at hx200_1)
                          (try rw [Addr.add_zero'] at hx200_1)
                          (try rw [show ((0 : Int)).toNat = 0 from rfl] at hx200_2)
                          (try rw [show 0 * 5 = 0 from rfl] at hx200_2)
                          (try rw [Addr.add_zero'] at hx200_2)
                          (try rw [show ((0 : Int)).toNat = 0 from rfl] at hx200_3)
                          (try rw [show 0 * 5 = 0 from rfl] at hx200_3)
                          (try rw [Addr.add_zero'] at hx200_3)
                          (try rw [show ((0 : Int)).toNat = 0 from rfl] at hx200_4)
                          (try rw [show 0 * 5 = 0 from rfl] at hx200_4)
                          (try rw [Addr.add_zero'] at hx200_4)
                          replace p200 := eq_true p200
                          replace q200 := eq_true q200
                          go_wp2
                          all_goals
                            go_ret
                            exact ⟨by first | rfl | (simp [errW_none, errW_some] <;> rfl) | (simp [*, errW_none, errW_some] <;> rfl) | (simp_all; done), by repeat (first | (with_reducible first | exact HB.out | apply below_alloc | apply pw_below_drewN | apply below_drew1 | refine below_set ?_ GE196.out) | exact HB.out)⟩
                        · rw [if_neg c47] at H
                          have c47b0 : (((rd_T34 t190 0).f0) == 2) = false := beq_eq_false_iff_ne.mpr c47
                          have c47b1 : (((rd_T34 t190 0).f0) != 2) = true := bne_iff_ne.mpr c47
                          obtain rfl := Option.some.inj H
                          have hcz50_0 : wc.cell? ⟨gb196, 0, none⟩ = some (.int .i64 t193) := (blk_cell BK196.out 0).trans rfl
                          have hcz50_1 : wc.cell? ⟨gb196, 1, none⟩ = some (.int .i64 t194) := (blk_cell BK196.out 1).trans rfl
                          have hcz50_2 : wc.cell? ⟨gb196, 2, none⟩ = some (.int .i64 t195) := (blk_cell BK196.out 2).trans rfl
                          have hfz50_0 := blk_frozen BK196.out 0
                          have hfz50_1 := blk_frozen BK196.out 1
                          have hfz50_2 := blk_frozen BK196.out 2
                          obtain ⟨Ao51, co51, eo51⟩ := Kd.R_slice HO_4.out
                          subst eo51
                          have p199 : 0 ≤ (0 : Int) := (by omega)
                          have q199 : 0 < (t190.length : Int) := of_decide_eq_true (by first | (with_reducible assumption) | assumption)
                          obtain ⟨ad199, e199, hx199_0, hx199_1, hx199_2, hx199_3, hx199_4⟩ := at_T34 (Kd.R_reads' HO_4.out).2.2 0 p199 q199
                          cases e199
                          have qi199 : (0 < t190.length) = True := eq_true (by omega)
                          (try rw [show ((0 : Int)).toNat = 0 from rfl] at hx199_0)
                          (try rw [show 0 * 5 = 0 from rfl] at hx199_0)
                          (try rw [Addr.add_zero'] at hx199_0)
                          (try rw [show ((0 : Int)).toNat = 0 from rfl] at hx199_1)
                          (try rw [show 0 * 5 = 0 from rfl] at hx199_1)
                          (try rw [Addr.add_zero'] at hx199_1)
                          (try rw [show ((0 : Int)).toNat = 0 from rfl] at hx199_2)
                          (try rw [show 0 * 5 = 0 from rfl] at hx199_2)
                          (try rw [Addr.add_zero'] at hx199_2)
                          (try rw [show ((0 : Int)).toNat = 0 from rfl] at hx199_3)
                          (try rw [show 0 * 5 = 0 from rfl] at hx199_3)
                          (try rw [Addr.add_zero'] at hx199_3)
                          (try rw [show ((0 : Int)).toNat = 0 from rfl] at hx199_4)
                          (try rw [show 0 * 5 = 0 from rfl] at hx199_4)
                          (try rw [Addr.add_zero'] at hx199_4)
                          replace p199 := eq_true p199
                          replace q199 := eq_true q199
                          go_wp2
                          all_goals
                            go_ret
                            exact ⟨by first | rfl | (simp [errW_none, errW_some] <;> rfl) | (simp [*, errW_none, errW_some] <;> rfl) | (simp_all; done), by repeat (first | (with_reducible first | exact HB.out | apply below_alloc | apply pw_below_drewN | apply below_drew1 | refine below_set ?_ GE196.out) | exact HB.out)⟩
                      · rw [if_neg c46] at H
                        exact absurd H (by simp)
                    · rw [if_neg c45] at H
                      have c45b0 : ((t190.length : Int) == 2) = false := beq_eq_false_iff_ne.mpr c45
                      have c45b1 : ((t190.length : Int) != 2) = true := bne_iff_ne.mpr c45
                      obtain rfl := Option.some.inj H
                      have hcz52_0 : wc.cell? ⟨gb196, 0, none⟩ = some (.int .i64 t193) := (blk_cell BK196.out 0).trans rfl
                      have hcz52_1 : wc.cell? ⟨gb196, 1, none⟩ = some (.int .i64 t194) := (blk_cell BK196.out 1).trans rfl
                      have hcz52_2 : wc.cell? ⟨gb196, 2, none⟩ = some (.int .i64 t195) := (blk_cell BK196.out 2).trans rfl
                      have hfz52_0 := blk_frozen BK196.out 0
                      have hfz52_1 := blk_frozen BK196.out 1
                      have hfz52_2 := blk_frozen BK196.out 2
                      obtain ⟨Ao53, co53, eo53⟩ := Kd.R_slice HO_4.out
                      subst eo53
                      go_wp2
                      all_goals
                        go_ret
                        exact ⟨by first | rfl | (simp [errW_none, errW_some] <;> rfl) | (simp [*, errW_none, errW_some] <;> rfl) | (simp_all; done), by repeat (first | (with_reducible first | exact HB.out | apply below_alloc | apply pw_below_drewN | apply below_drew1 | refine below_set ?_ GE196.out) | exact HB.out)⟩
                  · rw [if_neg c44] at H
                    have c44b0 : (t193 == 0 && ((t194 == 0 && (t195 == 0)))) = false := by simpa using c44
                    (try (have c44b1 : decide (t193 = 0 && ((t194 == 0 && (t195 == 0)))) = false := by simpa using c44))
                    (try (have c44b2 : (t193 == 0 && ((t194 == 0 && (t195 == 0)))) = false := by simpa using c44))
                    (try (have c44b3 : ¬ (t193 = 0 && ((t194 == 0 && (t195 == 0)))) := by simpa using c44))
                    clear c44
                    obtain rfl := Option.some.inj H
                    have hcz54_0 : wc.cell? ⟨gb196, 0, none⟩ = some (.int .i64 t193) := (blk_cell BK196.out 0).trans rfl
                    have hcz54_1 : wc.cell? ⟨gb196, 1, none⟩ = some (.int .i64 t194) := (blk_cell BK196.out 1).trans rfl
                    have hcz54_2 : wc.cell? ⟨gb196, 2, none⟩ = some (.int .i64 t195) := (blk_cell BK196.out 2).trans rfl
                    have hfz54_0 := blk_frozen BK196.out 0
                    have hfz54_1 := blk_frozen BK196.out 1
                    have hfz54_2 := blk_frozen BK196.out 2
                    go_wp2
                    all_goals
                      go_ret
                      exact ⟨by first | rfl | (simp [errW_none, errW_some] <;> rfl) | (simp [*, errW_none, errW_some] <;> rfl) | (simp_all; done), by repeat (first | (with_reducible first | exact HB.out | apply below_alloc | apply pw_below_drewN | apply below_drew1 | refine below_set ?_ GE196.out) | exact HB.out)⟩
              · replace c38 := Bool.eq_false_iff.mpr c38
                subst c38
                have H1 : (if a0 = 32 then (palingslaw02_LexBytes.j2 kj35 (strOfNums y187) t190 0 true t193 t194 t195) else (if a0 = 9 then (palingslaw02_LexBytes.j2 kj35 (strOfNums y187) t190 0 true t193 t194 t195) else (if a0 = 10 then (palingslaw02_LexBytes.j2 kj35 (strOfNums y187) t190 0 true t193 t194 t195) else (palingslaw02_LexBytes.j2 kj35 (strOfNums y187) t190 0 (a0 == 13) t193 t194 t195)))) = some r := by rw [if_neg (show ¬ (false = true) by decide)] at H; exact H
                clear H
                have H := H1
                clear H1
                have HC55 := Aside0.mk H
                clear H
                go_upto_region 16 with (fail)
                go_cut [55] (fun v55 wc => ∃ (kq : Nat) (x55_54 : Bool), v55 = .bool x55_54 ∧ Aside0 (palingslaw02_LexBytes.j2 kq (strOfNums y187) t190 0 x55_54 t193 t194 t195 = some r) ∧ Aside0 (kq ≤ kj35) ∧ Aside0 (Kd.R k34 34 wc w.heap.size (fun _ => True) v191 t190) ∧ Aside0 (wc.heap[gb196]? = some (.cells #[.int .i64 t193, .int .i64 t194, .int .i64 t195] 28 (0, 0))) ∧ Aside0 (Below w.heap.size w wc))
                case first =>
                  have H := HC55.out
                  clear HC55
                  by_cases c56 : a0 = 32
                  · rw [if_pos c56] at H
                    have c56b0 : (a0 == 32) = true := beq_iff_eq.mpr c56
                    have c56b1 : (a0 != 32) = false := bne_eq_false_iff_eq.mpr c56
                    clear c56
                    (first | rw [c56b0] | (simp only [i64_w, i32_w]; rw [c56b0]) | skip)
                    have H' := Aside0.mk H
                    clear H
                    go_wp2
                    go_meet
                    case rel => exact ⟨_, (true), (by first | rfl | (simp; done) | (simp [*]; done)), H', ⟨by have := HJ4.out; have := HJ35.out; first | omega | exact Nat.le_refl _⟩, ⟨by (with_reducible repeat (first | apply Kd.R_alloc | apply Kd.R_drewN | apply Kd.R_drew)); exact HO_4.out⟩, ⟨by (with_reducible repeat (first | refine blk_drewN ?_ _ | refine blk_drew ?_ | refine blk_alloc ?_ _)); exact BK196.out⟩, ⟨by repeat (first | (with_reducible first | exact HB.out | apply below_alloc | apply pw_below_drewN | apply below_drew1 | refine below_set ?_ GE196.out) | exact HB.out)⟩⟩
                  · rw [if_neg c56] at H
                    have c56b0 : (a0 == 32) = false := beq_eq_false_iff_ne.mpr c56
                    have c56b1 : (a0 != 32) = true := bne_iff_ne.mpr c56
                    (first | rw [c56b0] | (simp only [i64_w, i32_w]; rw [c56b0]) | skip)
                    by_cases c57 : a0 = 9
                    · rw [if_pos c57] at H
                      have c57b0 : (a0 == 9) = true := beq_iff_eq.mpr c57
                      have c57b1 : (a0 != 9) = false := bne_eq_false_iff_eq.mpr c57
                      clear c57
                      have H' := Aside0.mk H
                      clear H
                      go_wp2
                      go_meet
                      case rel => exact ⟨_, (true), (by first | rfl | (simp; done) | (simp [*]; done)), H', ⟨by have := HJ4.out; have := HJ35.out; first | omega | exact Nat.le_refl _⟩, ⟨by (with_reducible repeat (first | apply Kd.R_alloc | apply Kd.R_drewN | apply Kd.R_drew)); exact HO_4.out⟩, ⟨by (with_reducible repeat (first | refine blk_drewN ?_ _ | refine blk_drew ?_ | refine blk_alloc ?_ _)); exact BK196.out⟩, ⟨by repeat (first | (with_reducible first | exact HB.out | apply below_alloc | apply pw_below_drewN | apply below_drew1 | refine below_set ?_ GE196.out) | exact HB.out)⟩⟩
                    · rw [if_neg c57] at H
                      have c57b0 : (a0 == 9) = false := beq_eq_false_iff_ne.mpr c57
                      have c57b1 : (a0 != 9) = true := bne_iff_ne.mpr c57
                      by_cases c58 : a0 = 10
                      · rw [if_pos c58] at H
                        have c58b0 : (a0 == 10) = true := beq_iff_eq.mpr c58
                        have c58b1 : (a0 != 10) = false := bne_eq_false_iff_eq.mpr c58
                        clear c58
                        have H' := Aside0.mk H
                        clear H
                        go_wp2
                        go_meet
                        case rel => exact ⟨_, (true), (by first | rfl | (simp; done) | (simp [*]; done)), H', ⟨by have := HJ4.out; have := HJ35.out; first | omega | exact Nat.le_refl _⟩, ⟨by (with_reducible repeat (first | apply Kd.R_alloc | apply Kd.R_drewN | apply Kd.R_drew)); exact HO_4.out⟩, ⟨by (with_reducible repeat (first | refine blk_drewN ?_ _ | refine blk_drew ?_ | refine blk_alloc ?_ _)); exact BK196.out⟩, ⟨by repeat (first | (with_reducible first | exact HB.out | apply below_alloc | apply pw_below_drewN | apply below_drew1 | refine below_set ?_ GE196.out) | exact HB.out)⟩⟩
                      · rw [if_neg c58] at H
                        have c58b0 : (a0 == 10) = false := beq_eq_false_iff_ne.mpr c58
                        have c58b1 : (a0 != 10) = true := bne_iff_ne.mpr c58
                        have H' := Aside0.mk H
                        clear H
                        go_wp2
                        go_meet
                        case rel => exact ⟨_, ((a0 == 13)), (by first | rfl | (simp; done) | (simp [*]; done)), H', ⟨by have := HJ4.out; have := HJ35.out; first | omega | exact Nat.le_refl _⟩, ⟨by (with_reducible repeat (first | apply Kd.R_alloc | apply Kd.R_drewN | apply Kd.R_drew)); exact HO_4.out⟩, ⟨by (with_reducible repeat (first | refine blk_drewN ?_ _ | refine blk_drew ?_ | refine blk_alloc ?_ _)); exact BK196.out⟩, ⟨by repeat (first | (with_reducible first | exact HB.out | apply below_alloc | apply pw_below_drewN | apply below_drew1 | refine below_set ?_ GE196.out) | exact HB.out)⟩⟩
                case rest =>
                  clear HC55
                  try clear c1
                  try clear p1
                  try clear q1
                  try clear hx1
                  try clear qi1
                  try clear c2
                  try clear p2
                  try clear q2
                  try clear hx2
                  try clear qi2
                  try clear c3
                  try clear c4
                  try clear c5
                  try clear c9
                  try clear hcv9
                  try clear c10
                  try clear c13
                  try clear c13b0
                  try clear c14
                  try clear c14b0
                  try clear c15
                  try clear c15b0
                  try clear c16
                  try clear c16b0
                  try clear c17
                  try clear c17b0
                  try clear c18
                  try clear c18b0
                  try clear c19
                  try clear p19
                  try clear q19
                  try clear hx19
                  try clear qi19
                  try clear c20
                  try clear c20b0
                  try clear c20b1
                  try clear p20
                  try clear q20
                  try clear hx20
                  try clear qi20
                  try clear c21
                  try clear c21b0
                  try clear c21b1
                  try clear c21b2
                  try clear c25
                  try clear c25b0
                  try clear c25b1
                  try clear c25b2
                  try clear c26
                  try clear c26b0
                  try clear c26b1
                  try clear c27
                  try clear c27b0
                  try clear c27b1
                  try clear c28
                  try clear c28b0
                  try clear c28b1
                  try clear c37
                  try clear c37b0
                  try clear c38
                  try clear c39
                  try clear c39b0
                  try clear c39b1
                  try clear c40
                  try clear c40b0
                  try clear c40b1
                  try clear c40b2
                  try clear c44
                  try clear c44b0
                  try clear c44b1
                  try clear c44b2
                  try clear c45
                  try clear c45b0
                  try clear c45b1
                  try clear c46
                  try clear c46b0
                  try clear c46b1
                  try clear c47
                  try clear c47b0
                  try clear c47b1
                  try clear c56
                  try clear c56b0
                  try clear c56b1
                  try clear c57
                  try clear c57b0
                  try clear c57b1
                  try clear c58
                  try clear c58b0
                  try clear c58b1
                  try clear hcz12_0
                  try clear hcz12_1
                  try clear hcz12_2
                  try clear hcz22_0
                  try clear hcz22_1
                  try clear hcz22_2
                  try clear hcz24_0
                  try clear hcz24_1
                  try clear hcz24_2
                  try clear hcz29_0
                  try clear hcz29_1
                  try clear hcz29_2
                  try clear hcz31_0
                  try clear hcz31_1
                  try clear hcz31_2
                  try clear hcz33_0
                  try clear hcz33_1
                  try clear hcz33_2
                  try clear hcz35_0
                  try clear hcz35_1
                  try clear hcz35_2
                  try clear hcz41_0
                  try clear hcz41_1
                  try clear hcz41_2
                  try clear hcz43_0
                  try clear hcz43_1
                  try clear hcz43_2
                  try clear hcz48_0
                  try clear hcz48_1
                  try clear hcz48_2
                  try clear hcz50_0
                  try clear hcz50_1
                  try clear hcz50_2
                  try clear hcz52_0
                  try clear hcz52_1
                  try clear hcz52_2
                  try clear hcz54_0
                  try clear hcz54_1
                  try clear hcz54_2
                  try clear hfz12_0
                  try clear hfz12_1
                  try clear hfz12_2
                  try clear hfz22_0
                  try clear hfz22_1
                  try clear hfz22_2
                  try clear hfz24_0
                  try clear hfz24_1
                  try clear hfz24_2
                  try clear hfz29_0
                  try clear hfz29_1
                  try clear hfz29_2
                  try clear hfz31_0
                  try clear hfz31_1
                  try clear hfz31_2
                  try clear hfz33_0
                  try clear hfz33_1
                  try clear hfz33_2
                  try clear hfz35_0
                  try clear hfz35_1
                  try clear hfz35_2
                  try clear hfz41_0
                  try clear hfz41_1
                  try clear hfz41_2
                  try clear hfz43_0
                  try clear hfz43_1
                  try clear hfz43_2
                  try clear hfz48_0
                  try clear hfz48_1
                  try clear hfz48_2
                  try clear hfz50_0
                  try clear hfz50_1
                  try clear hfz50_2
                  try clear hfz52_0
                  try clear hfz52_1
                  try clear hfz52_2
                  try clear hfz54_0
                  try clear hfz54_1
                  try clear hfz54_2
                  try clear hx197_0
                  try clear hx197_1
                  try clear hx197_2
                  try clear hx197_3
                  try clear hx197_4
                  try clear hx198_0
                  try clear hx198_1
                  try clear hx198_2
                  try clear hx198_3
                  try clear hx198_4
                  try clear hx199_0
                  try clear hx199_1
                  try clear hx199_2
                  try clear hx199_3
                  try clear hx199_4
                  try clear hx200_0
                  try clear hx200_1
                  try clear hx200_2
                  try clear hx200_3
                  try clear hx200_4
                  try clear p1
                  try clear p19
                  try clear p197
                  try clear p198
                  try clear p199
                  try clear p2
                  try clear p200
                  try clear q1
                  try clear q19
                  try clear q197
                  try clear q198
                  try clear q199
                  try clear q200
                  obtain ⟨kq, x55_54, rfl, HA, HJ54, HO_4, BK196, HB⟩ := hcut
                  cases kq with
                  | zero => exact absurd HA.out (by simp [palingslaw02_LexBytes.j2])
                  | succ kj54 =>
                    have H := HA.out
                    clear HA
                    simp only [palingslaw02_LexBytes.j2] at H
                    by_cases c59 : x55_54 = true
                    · subst c59
                      have H1 : (if (t193 == 0 && ((t194 == 0 && (t195 == 0)))) = true then (some ((t190.length : Int) == 1)) else (some false)) = some r := by rw [if_pos rfl] at H; exact H
                      clear H
                      have H := H1
                      clear H1
                      by_cases c60 : (t193 == 0 && ((t194 == 0 && (t195 == 0)))) = true
                      · rw [if_pos c60] at H
                        have c60b0 : (t193 == 0 && ((t194 == 0 && (t195 == 0)))) = true := c60
                        (try (have c60b1 : decide (t193 = 0 && ((t194 == 0 && (t195 == 0)))) = true := by simpa using c60))
                        (try (have c60b2 : (t193 == 0 && ((t194 == 0 && (t195 == 0)))) = true := by simpa using c60))
                        clear c60
                        obtain rfl := Option.some.inj H
                        have hcz61_0 : wc.cell? ⟨gb196, 0, none⟩ = some (.int .i64 t193) := (blk_cell BK196.out 0).trans rfl
                        have hcz61_1 : wc.cell? ⟨gb196, 1, none⟩ = some (.int .i64 t194) := (blk_cell BK196.out 1).trans rfl
                        have hcz61_2 : wc.cell? ⟨gb196, 2, none⟩ = some (.int .i64 t195) := (blk_cell BK196.out 2).trans rfl
                        have hfz61_0 := blk_frozen BK196.out 0
                        have hfz61_1 := blk_frozen BK196.out 1
                        have hfz61_2 := blk_frozen BK196.out 2
                        obtain ⟨Ao62, co62, eo62⟩ := Kd.R_slice HO_4.out
                        subst eo62
                        go_wp2
                        all_goals
                          go_ret
                          exact ⟨by first | rfl | (simp [errW_none, errW_some] <;> rfl) | (simp [*, errW_none, errW_some] <;> rfl) | (simp_all; done), by repeat (first | (with_reducible first | exact HB.out | apply below_alloc | apply pw_below_drewN | apply below_drew1 | refine below_set ?_ GE196.out) | exact HB.out)⟩
                      · rw [if_neg c60] at H
                        have c60b0 : (t193 == 0 && ((t194 == 0 && (t195 == 0)))) = false := by simpa using c60
                        (try (have c60b1 : decide (t193 = 0 && ((t194 == 0 && (t195 == 0)))) = false := by simpa using c60))
                        (try (have c60b2 : (t193 == 0 && ((t194 == 0 && (t195 == 0)))) = false := by simpa using c60))
                        (try (have c60b3 : ¬ (t193 = 0 && ((t194 == 0 && (t195 == 0)))) := by simpa using c60))
                        clear c60
                        obtain rfl := Option.some.inj H
                        have hcz63_0 : wc.cell? ⟨gb196, 0, none⟩ = some (.int .i64 t193) := (blk_cell BK196.out 0).trans rfl
                        have hcz63_1 : wc.cell? ⟨gb196, 1, none⟩ = some (.int .i64 t194) := (blk_cell BK196.out 1).trans rfl
                        have hcz63_2 : wc.cell? ⟨gb196, 2, none⟩ = some (.int .i64 t195) := (blk_cell BK196.out 2).trans rfl
                        have hfz63_0 := blk_frozen BK196.out 0
                        have hfz63_1 := blk_frozen BK196.out 1
                        have hfz63_2 := blk_frozen BK196.out 2
                        go_wp2
                        all_goals
                          go_ret
                          exact ⟨by first | rfl | (simp [errW_none, errW_some] <;> rfl) | (simp [*, errW_none, errW_some] <;> rfl) | (simp_all; done), by repeat (first | (with_reducible first | exact HB.out | apply below_alloc | apply pw_below_drewN | apply below_drew1 | refine below_set ?_ GE196.out) | exact HB.out)⟩
                    · replace c59 := Bool.eq_false_iff.mpr c59
                      subst c59
                      have H1 : ((lex_isMark.f (strOfNums y187)).bind fun t201 => (if t201 = true then (if 4 = 0 then (if (t193 == 10 && ((t194 == 1 && (t195 == 1)))) = true then (some ((t190.length : Int) == 0)) else (some false)) else (if (t193 == 0 && ((t194 == 0 && (t195 == 0)))) = true then (if (t190.length : Int) = 2 then (if 0 < (t190.length : Int) then (if ((rd_T34 t190 0).f0) = 4 then (some (((rd_T34 t190 0).f1).toList == (strOfNums y187).toList)) else (some false)) else (none)) else (some false)) else (some false))) else (if 0 = 0 then (if (t193 == 10 && ((t194 == 1 && (t195 == 1)))) = true then (some ((t190.length : Int) == 0)) else (some false)) else (if (t193 == 0 && ((t194 == 0 && (t195 == 0)))) = true then (if (t190.length : Int) = 2 then (if 0 < (t190.length : Int) then (if ((rd_T34 t190 0).f0) = 0 then (some (((rd_T34 t190 0).f1).toList == (strOfNums y187).toList)) else (some false)) else (none)) else (some false)) else (some false))))) = some r := by rw [if_neg (show ¬ (false = true) by decide)] at H; exact H
                      clear H
                      have H := H1
                      clear H1
                      replace H := Option.bind_eq_some_iff.mp H
                      obtain ⟨t201, A640, H⟩ := H
                      replace H : (if t201 = true then (if 4 = 0 then (if (t193 == 10 && ((t194 == 1 && (t195 == 1)))) = true then (some ((t190.length : Int) == 0)) else (some false)) else (if (t193 == 0 && ((t194 == 0 && (t195 == 0)))) = true then (if (t190.length : Int) = 2 then (if 0 < (t190.length : Int) then (if ((rd_T34 t190 0).f0) = 4 then (some (((rd_T34 t190 0).f1).toList == (strOfNums y187).toList)) else (some false)) else (none)) else (some false)) else (some false))) else (if 0 = 0 then (if (t193 == 10 && ((t194 == 1 && (t195 == 1)))) = true then (some ((t190.length : Int) == 0)) else (some false)) else (if (t193 == 0 && ((t194 == 0 && (t195 == 0)))) = true then (if (t190.length : Int) = 2 then (if 0 < (t190.length : Int) then (if ((rd_T34 t190 0).f0) = 0 then (some (((rd_T34 t190 0).f1).toList == (strOfNums y187).toList)) else (some false)) else (none)) else (some false)) else (some false)))) = some r := H
                      have A64 := Aside0.mk A640
                      clear A640
                      by_cases c65 : t201 = true
                      · subst c65
                        have H1 : (if 4 = 0 then (if (t193 == 10 && ((t194 == 1 && (t195 == 1)))) = true then (some ((t190.length : Int) == 0)) else (some false)) else (if (t193 == 0 && ((t194 == 0 && (t195 == 0)))) = true then (if (t190.length : Int) = 2 then (if 0 < (t190.length : Int) then (if ((rd_T34 t190 0).f0) = 4 then (some (((rd_T34 t190 0).f1).toList == (strOfNums y187).toList)) else (some false)) else (none)) else (some false)) else (some false))) = some r := by rw [if_pos rfl] at H; exact H
                        clear H
                        have H := H1
                        clear H1
                        by_cases c66 : 4 = 0
                        · rw [if_pos c66] at H
                          have c66b0 : (4 == 0) = true := beq_iff_eq.mpr c66
                          have c66b1 : (4 != 0) = false := bne_eq_false_iff_eq.mpr c66
                          clear c66
                          by_cases c67 : (t193 == 10 && ((t194 == 1 && (t195 == 1)))) = true
                          · rw [if_pos c67] at H
                            have c67b0 : (t193 == 10 && ((t194 == 1 && (t195 == 1)))) = true := c67
                            (try (have c67b1 : decide (t193 = 10 && ((t194 == 1 && (t195 == 1)))) = true := by simpa using c67))
                            (try (have c67b2 : (t193 == 10 && ((t194 == 1 && (t195 == 1)))) = true := by simpa using c67))
                            clear c67
                            obtain rfl := Option.some.inj H
                            obtain ⟨wa, wcap, hwa0, hgs⟩ := GM.out
                            have hg0 : wc.cell? ⟨0, 0, none⟩ = some (.slice (some wa) 28 wcap) := Mine.cell_below hwa0 HB.out
                            have hgw := (show ∀ (i : Nat) (x : List UInt8), markList[i]? = some x → wc.cell? (wa.add i) = some (.string ⟨x.toArray⟩) from fun i x hx => Mine.cell_below (hgs i x hx) HB.out)
                            clear hwa0 hgs
                            go_wp2
                            go_loopg [6, 21] 29 (fun kq v6 v21 w' => ∃ (x kd : Int), v6 = .int .i64 kd ∧ v21 = .int .i64 x ∧ Aside0 (wc = w') ∧ Aside0 (0 ≤ x ∧ x ≤ 28 ∧ (kq : Int) + x = 29) ∧ Aside0 (kd = if ((markList.take x.toNat).any fun y => y == (strOfNums y187).toList) = true then 4 else 0))
                            case atStart => exact ⟨0, 0, rfl, rfl, ⟨rfl⟩, ⟨by decide, by decide, by decide⟩, ⟨rfl⟩⟩
                            case round =>
                              clear hg0
                              obtain ⟨x, kd, rfl, rfl, hww, HM, HD⟩ := hrel
                              obtain rfl := hww.out
                              clear hww
                              cases gk with
                              | zero => have := HM.out; omega
                              | succ k1 =>
                                by_cases cx : x < 28
                                · have p9 : 0 ≤ x := HM.out.1
                                  obtain ⟨m, hm⟩ : ∃ m, markList[x.toNat]? = some m := ⟨_, List.getElem?_eq_getElem (show x.toNat < 28 by omega)⟩
                                  obtain ⟨mb, hmb⟩ : ∃ b_ : ByteArray, (⟨m.toArray⟩ : ByteArray) = b_ := ⟨_, rfl⟩
                                  have hcx := hgw x.toNat m hm
                                  rw [hmb] at hcx
                                  have hlist : mb.toList = m := by rw [← hmb, ByteArray.toList_eq]
                                  have hw : wrap64 (x + 1) = x + 1 := by have := HM.out; unfold wrap64; omega
                                  have cx0 : decide (x < 28) = true := decide_eq_true cx
                                  have px := eq_true p9; have qx := eq_true cx; clear p9
                                  by_cases ce : m = (strOfNums y187).toList
                                  · have ce0 : (m == (strOfNums y187).toList) = true := beq_iff_eq.mpr ce
                                    have HCE := Aside0.mk ce; clear ce
                                    go_wp2
                                    all_goals
                                      go_roundg k1
                                      case measure => omega
                                      case rel =>
                                        refine ⟨x + 1, 4, rfl, by rw [hw], ⟨rfl⟩, ⟨by have hm_ := HM.out; omega⟩, ⟨?_⟩⟩
                                        rw [show (x + 1).toNat = x.toNat + 1 from by have hm_ := HM.out; omega, List.take_add_one, hm]
                                        simp [← HCE.out]
                                  · have ce0 : (m == (strOfNums y187).toList) = false := beq_eq_false_iff_ne.mpr ce
                                    have HCE := Aside0.mk ce; clear ce
                                    go_wp2
                                    all_goals
                                      go_roundg k1
                                      case measure => omega
                                      case rel =>
                                        refine ⟨x + 1, kd, rfl, by rw [hw], ⟨rfl⟩, ⟨by have hm_ := HM.out; omega⟩, ⟨?_⟩⟩
                                        rw [show (x + 1).toNat = x.toNat + 1 from by have hm_ := HM.out; omega, List.take_add_one, hm, HD.out]
                                        simp [ce0]
                                · have cx0 : decide (x < 28) = false := decide_eq_false cx
                                  obtain rfl : x = 28 := by have := HM.out; omega
                                  have hkd := HD.out; clear HD
                                  rw [show ((markList.take (28 : Int).toNat).any fun y => y == (strOfNums y187).toList) = true from Option.some.inj A64.out] at hkd
                                  obtain rfl : kd = 4 := by rw [hkd]; rfl
                                  clear hkd
                                  have hcz68_0 : wc.cell? ⟨gb196, 0, none⟩ = some (.int .i64 t193) := (blk_cell BK196.out 0).trans rfl
                                  have hcz68_1 : wc.cell? ⟨gb196, 1, none⟩ = some (.int .i64 t194) := (blk_cell BK196.out 1).trans rfl
                                  have hcz68_2 : wc.cell? ⟨gb196, 2, none⟩ = some (.int .i64 t195) := (blk_cell BK196.out 2).trans rfl
                                  have hfz68_0 := blk_frozen BK196.out 0
                                  have hfz68_1 := blk_frozen BK196.out 1
                                  have hfz68_2 := blk_frozen BK196.out 2
                                  obtain ⟨Ao69, co69, eo69⟩ := Kd.R_slice HO_4.out
                                  subst eo69
                                  go_wp2
                                  all_goals
                                    go_ret
                                    exact ⟨by first | rfl | (simp [errW_none, errW_some] <;> rfl) | (simp [*, errW_none, errW_some] <;> rfl) | (simp_all; done), by repeat (first | (with_reducible first | exact HB.out | apply below_alloc | apply pw_below_drewN | apply below_drew1 | refine below_set ?_ GE196.out) | exact HB.out)⟩
                          · rw [if_neg c67] at H
                            have c67b0 : (t193 == 10 && ((t194 == 1 && (t195 == 1)))) = false := by simpa using c67
                            (try (have c67b1 : decide (t193 = 10 && ((t194 == 1 && (t195 == 1)))) = false := by simpa using c67))
                            (try (have c67b2 : (t193 == 10 && ((t194 == 1 && (t195 == 1)))) = false := by simpa using c67))
                            (try (have c67b3 : ¬ (t193 = 10 && ((t194 == 1 && (t195 == 1)))) := by simpa using c67))
                            clear c67
                            obtain rfl := Option.some.inj H
                            obtain ⟨wa, wcap, hwa0, hgs⟩ := GM.out
                            have hg0 : wc.cell? ⟨0, 0, none⟩ = some (.slice (some wa) 28 wcap) := Mine.cell_below hwa0 HB.out
                            have hgw := (show ∀ (i : Nat) (x : List UInt8), markList[i]? = some x → wc.cell? (wa.add i) = some (.string ⟨x.toArray⟩) from fun i x hx => Mine.cell_below (hgs i x hx) HB.out)
                            clear hwa0 hgs
                            go_wp2
                            go_loopg [6, 21] 29 (fun kq v6 v21 w' => ∃ (x kd : Int), v6 = .int .i64 kd ∧ v21 = .int .i64 x ∧ Aside0 (wc = w') ∧ Aside0 (0 ≤ x ∧ x ≤ 28 ∧ (kq : Int) + x = 29) ∧ Aside0 (kd = if ((markList.take x.toNat).any fun y => y == (strOfNums y187).toList) = true then 4 else 0))
                            case atStart => exact ⟨0, 0, rfl, rfl, ⟨rfl⟩, ⟨by decide, by decide, by decide⟩, ⟨rfl⟩⟩
                            case round =>
                              clear hg0
                              obtain ⟨x, kd, rfl, rfl, hww, HM, HD⟩ := hrel
                              obtain rfl := hww.out
                              clear hww
                              cases gk with
                              | zero => have := HM.out; omega
                              | succ k1 =>
                                by_cases cx : x < 28
                                · have p9 : 0 ≤ x := HM.out.1
                                  obtain ⟨m, hm⟩ : ∃ m, markList[x.toNat]? = some m := ⟨_, List.getElem?_eq_getElem (show x.toNat < 28 by omega)⟩
                                  obtain ⟨mb, hmb⟩ : ∃ b_ : ByteArray, (⟨m.toArray⟩ : ByteArray) = b_ := ⟨_, rfl⟩
                                  have hcx := hgw x.toNat m hm
                                  rw [hmb] at hcx
                                  have hlist : mb.toList = m := by rw [← hmb, ByteArray.toList_eq]
                                  have hw : wrap64 (x + 1) = x + 1 := by have := HM.out; unfold wrap64; omega
                                  have cx0 : decide (x < 28) = true := decide_eq_true cx
                                  have px := eq_true p9; have qx := eq_true cx; clear p9
                                  by_cases ce : m = (strOfNums y187).toList
                                  · have ce0 : (m == (strOfNums y187).toList) = true := beq_iff_eq.mpr ce
                                    have HCE := Aside0.mk ce; clear ce
                                    go_wp2
                                    all_goals
                                      go_roundg k1
                                      case measure => omega
                                      case rel =>
                                        refine ⟨x + 1, 4, rfl, by rw [hw], ⟨rfl⟩, ⟨by have hm_ := HM.out; omega⟩, ⟨?_⟩⟩
                                        rw [show (x + 1).toNat = x.toNat + 1 from by have hm_ := HM.out; omega, List.take_add_one, hm]
                                        simp [← HCE.out]
                                  · have ce0 : (m == (strOfNums y187).toList) = false := beq_eq_false_iff_ne.mpr ce
                                    have HCE := Aside0.mk ce; clear ce
                                    go_wp2
                                    all_goals
                                      go_roundg k1
                                      case measure => omega
                                      case rel =>
                                        refine ⟨x + 1, kd, rfl, by rw [hw], ⟨rfl⟩, ⟨by have hm_ := HM.out; omega⟩, ⟨?_⟩⟩
                                        rw [show (x + 1).toNat = x.toNat + 1 from by have hm_ := HM.out; omega, List.take_add_one, hm, HD.out]
                                        simp [ce0]
                                · have cx0 : decide (x < 28) = false := decide_eq_false cx
                                  obtain rfl : x = 28 := by have := HM.out; omega
                                  have hkd := HD.out; clear HD
                                  rw [show ((markList.take (28 : Int).toNat).any fun y => y == (strOfNums y187).toList) = true from Option.some.inj A64.out] at hkd
                                  obtain rfl : kd = 4 := by rw [hkd]; rfl
                                  clear hkd
                                  have hcz70_0 : wc.cell? ⟨gb196, 0, none⟩ = some (.int .i64 t193) := (blk_cell BK196.out 0).trans rfl
                                  have hcz70_1 : wc.cell? ⟨gb196, 1, none⟩ = some (.int .i64 t194) := (blk_cell BK196.out 1).trans rfl
                                  have hcz70_2 : wc.cell? ⟨gb196, 2, none⟩ = some (.int .i64 t195) := (blk_cell BK196.out 2).trans rfl
                                  have hfz70_0 := blk_frozen BK196.out 0
                                  have hfz70_1 := blk_frozen BK196.out 1
                                  have hfz70_2 := blk_frozen BK196.out 2
                                  go_wp2
                                  all_goals
                                    go_ret
                                    exact ⟨by first | rfl | (simp [errW_none, errW_some] <;> rfl) | (simp [*, errW_none, errW_some] <;> rfl) | (simp_all; done), by repeat (first | (with_reducible first | exact HB.out | apply below_alloc | apply pw_below_drewN | apply below_drew1 | refine below_set ?_ GE196.out) | exact HB.out)⟩
                        · rw [if_neg c66] at H
                          have c66b0 : (4 == 0) = false := beq_eq_false_iff_ne.mpr c66
                          have c66b1 : (4 != 0) = true := bne_iff_ne.mpr c66
                          by_cases c71 : (t193 == 0 && ((t194 == 0 && (t195 == 0)))) = true
                          · rw [if_pos c71] at H
                            have c71b0 : (t193 == 0 && ((t194 == 0 && (t195 == 0)))) = true := c71
                            (try (have c71b1 : decide (t193 = 0 && ((t194 == 0 && (t195 == 0)))) = true := by simpa using c71))
                            (try (have c71b2 : (t193 == 0 && ((t194 == 0 && (t195 == 0)))) = true := by simpa using c71))
                            clear c71
                            by_cases c72 : (t190.length : Int) = 2
                            · rw [if_pos c72] at H
                              have c72b0 : ((t190.length : Int) == 2) = true := beq_iff_eq.mpr c72
                              have c72b1 : ((t190.length : Int) != 2) = false := bne_eq_false_iff_eq.mpr c72
                              clear c72
                              by_cases c73 : 0 < (t190.length : Int)
                              · rw [if_pos c73] at H
                                have c73b0 : decide (0 < (t190.length : Int)) = true := decide_eq_true c73
                                have c73b1 : decide (0 < t190.length) = true := decide_eq_true (by omega)
                                clear c73
                                by_cases c74 : ((rd_T34 t190 0).f0) = 4
                                · rw [if_pos c74] at H
                                  have c74b0 : (((rd_T34 t190 0).f0) == 4) = true := beq_iff_eq.mpr c74
                                  have c74b1 : (((rd_T34 t190 0).f0) != 4) = false := bne_eq_false_iff_eq.mpr c74
                                  clear c74
                                  obtain rfl := Option.some.inj H
                                  obtain ⟨wa, wcap, hwa0, hgs⟩ := GM.out
                                  have hg0 : wc.cell? ⟨0, 0, none⟩ = some (.slice (some wa) 28 wcap) := Mine.cell_below hwa0 HB.out
                                  have hgw := (show ∀ (i : Nat) (x : List UInt8), markList[i]? = some x → wc.cell? (wa.add i) = some (.string ⟨x.toArray⟩) from fun i x hx => Mine.cell_below (hgs i x hx) HB.out)
                                  clear hwa0 hgs
                                  go_wp2
                                  go_loopg [6, 21] 29 (fun kq v6 v21 w' => ∃ (x kd : Int), v6 = .int .i64 kd ∧ v21 = .int .i64 x ∧ Aside0 (wc = w') ∧ Aside0 (0 ≤ x ∧ x ≤ 28 ∧ (kq : Int) + x = 29) ∧ Aside0 (kd = if ((markList.take x.toNat).any fun y => y == (strOfNums y187).toList) = true then 4 else 0))
                                  case atStart => exact ⟨0, 0, rfl, rfl, ⟨rfl⟩, ⟨by decide, by decide, by decide⟩, ⟨rfl⟩⟩
                                  case round =>
                                    clear hg0
                                    obtain ⟨x, kd, rfl, rfl, hww, HM, HD⟩ := hrel
                                    obtain rfl := hww.out
                                    clear hww
                                    cases gk with
                                    | zero => have := HM.out; omega
                                    | succ k1 =>
                                      by_cases cx : x < 28
                                      · have p9 : 0 ≤ x := HM.out.1
                                        obtain ⟨m, hm⟩ : ∃ m, markList[x.toNat]? = some m := ⟨_, List.getElem?_eq_getElem (show x.toNat < 28 by omega)⟩
                                        obtain ⟨mb, hmb⟩ : ∃ b_ : ByteArray, (⟨m.toArray⟩ : ByteArray) = b_ := ⟨_, rfl⟩
                                        have hcx := hgw x.toNat m hm
                                        rw [hmb] at hcx
                                        have hlist : mb.toList = m := by rw [← hmb, ByteArray.toList_eq]
                                        have hw : wrap64 (x + 1) = x + 1 := by have := HM.out; unfold wrap64; omega
                                        have cx0 : decide (x < 28) = true := decide_eq_true cx
                                        have px := eq_true p9; have qx := eq_true cx; clear p9
                                        by_cases ce : m = (strOfNums y187).toList
                                        · have ce0 : (m == (strOfNums y187).toList) = true := beq_iff_eq.mpr ce
                                          have HCE := Aside0.mk ce; clear ce
                                          go_wp2
                                          all_goals
                                            go_roundg k1
                                            case measure => omega
                                            case rel =>
                                              refine ⟨x + 1, 4, rfl, by rw [hw], ⟨rfl⟩, ⟨by have hm_ := HM.out; omega⟩, ⟨?_⟩⟩
                                              rw [show (x + 1).toNat = x.toNat + 1 from by have hm_ := HM.out; omega, List.take_add_one, hm]
                                              simp [← HCE.out]
                                        · have ce0 : (m == (strOfNums y187).toList) = false := beq_eq_false_iff_ne.mpr ce
                                          have HCE := Aside0.mk ce; clear ce
                                          go_wp2
                                          all_goals
                                            go_roundg k1
                                            case measure => omega
                                            case rel =>
                                              refine ⟨x + 1, kd, rfl, by rw [hw], ⟨rfl⟩, ⟨by have hm_ := HM.out; omega⟩, ⟨?_⟩⟩
                                              rw [show (x + 1).toNat = x.toNat + 1 from by have hm_ := HM.out; omega, List.take_add_one, hm, HD.out]
                                              simp [ce0]
                                      · have cx0 : decide (x < 28) = false := decide_eq_false cx
                                        obtain rfl : x = 28 := by have := HM.out; omega
                                        have hkd := HD.out; clear HD
                                        rw [show ((markList.take (28 : Int).toNat).any fun y => y == (strOfNums y187).toList) = true from Option.some.inj A64.out] at hkd
                                        obtain rfl : kd = 4 := by rw [hkd]; rfl
                                        clear hkd
                                        have hcz75_0 : wc.cell? ⟨gb196, 0, none⟩ = some (.int .i64 t193) := (blk_cell BK196.out 0).trans rfl
                                        have hcz75_1 : wc.cell? ⟨gb196, 1, none⟩ = some (.int .i64 t194) := (blk_cell BK196.out 1).trans rfl
                                        have hcz75_2 : wc.cell? ⟨gb196, 2, none⟩ = some (.int .i64 t195) := (blk_cell BK196.out 2).trans rfl
                                        have hfz75_0 := blk_frozen BK196.out 0
                                        have hfz75_1 := blk_frozen BK196.out 1
                                        have hfz75_2 := blk_frozen BK196.out 2
                                        obtain ⟨Ao76, co76, eo76⟩ := Kd.R_slice HO_4.out
                                        subst eo76
                                        have p202 : 0 ≤ (0 : Int) := (by omega)
                                        have q202 : 0 < (t190.length : Int) := of_decide_eq_true (by first | (with_reducible assumption) | assumption)
                                        obtain ⟨ad202, e202, hx202_0, hx202_1, hx202_2, hx202_3, hx202_4⟩ := at_T34 (Kd.R_reads' HO_4.out).2.2 0 p202 q202
                                        cases e202
                                        have qi202 : (0 < t190.length) = True := eq_true (by omega)
                                        (try rw [show ((0 : Int)).toNat = 0 from rfl] at hx202_0)
                                        (try rw [show 0 * 5 = 0 from rfl] at hx202_0)
                                        (try rw [Addr.add_zero'] at hx202_0)
                                        (try rw [show ((0 : Int)).toNat = 0 from rfl] at hx202_1)
                                        (try rw [show 0 * 5 = 0 from rfl] at hx202_1)
                                        (try rw [Addr.add_zero'] at hx202_1)
                                        (try rw [show ((0 : Int)).toNat = 0 from rfl] at hx202_2)
                                        (try rw [show 0 * 5 = 0 from rfl] at hx202_2)
                                        (try rw [Addr.add_zero'] at hx202_2)
                                        (try rw [show ((0 : Int)).toNat = 0 from rfl] at hx202_3)
                                        (try rw [show 0 * 5 = 0 from rfl] at hx202_3)
                                        (try rw [Addr.add_zero'] at hx202_3)
                                        (try rw [show ((0 : Int)).toNat = 0 from rfl] at hx202_4)
                                        (try rw [show 0 * 5 = 0 from rfl] at hx202_4)
                                        (try rw [Addr.add_zero'] at hx202_4)
                                        replace p202 := eq_true p202
                                        replace q202 := eq_true q202
                                        have p203 : 0 ≤ (0 : Int) := (by omega)
                                        have q203 : 0 < (t190.length : Int) := of_decide_eq_true (by first | (with_reducible assumption) | assumption)
                                        obtain ⟨ad203, e203, hx203_0, hx203_1, hx203_2, hx203_3, hx203_4⟩ := at_T34 (Kd.R_reads' HO_4.out).2.2 0 p203 q203
                                        obtain rfl : ad202 = ad203 := (by injection e203)
                                        have qi203 : (0 < t190.length) = True := eq_true (by omega)
                                        (try rw [show ((0 : Int)).toNat = 0 from rfl] at hx203_0)
                                        (try rw [show 0 * 5 = 0 from rfl] at hx203_0)
                                        (try rw [Addr.add_zero'] at hx203_0)
                                        (try rw [show ((0 : Int)).toNat = 0 from rfl] at hx203_1)
                                        (try rw [show 0 * 5 = 0 from rfl] at hx203_1)
                                        (try rw [Addr.add_zero'] at hx203_1)
                                        (try rw [show ((0 : Int)).toNat = 0 from rfl] at hx203_2)
                                        (try rw [show 0 * 5 = 0 from rfl] at hx203_2)
                                        (try rw [Addr.add_zero'] at hx203_2)
                                        (try rw [show ((0 : Int)).toNat = 0 from rfl] at hx203_3)
                                        (try rw [show 0 * 5 = 0 from rfl] at hx203_3)
                                        (try rw [Addr.add_zero'] at hx203_3)
                                        (try rw [show ((0 : Int)).toNat = 0 from rfl] at hx203_4)
                                        (try rw [show 0 * 5 = 0 from rfl] at hx203_4)
                                        (try rw [Addr.add_zero'] at hx203_4)
                                        replace p203 := eq_true p203
                                        replace q203 := eq_true q203
                                        go_wp2
                                        all_goals
                                          go_ret
                                          exact ⟨by first | rfl | (simp [errW_none, errW_some] <;> rfl) | (simp [*, errW_none, errW_some] <;> rfl) | (simp_all; done), by repeat (first | (with_reducible first | exact HB.out | apply below_alloc | apply pw_below_drewN | apply below_drew1 | refine below_set ?_ GE196.out) | exact HB.out)⟩
                                · rw [if_neg c74] at H
                                  have c74b0 : (((rd_T34 t190 0).f0) == 4) = false := beq_eq_false_iff_ne.mpr c74
                                  have c74b1 : (((rd_T34 t190 0).f0) != 4) = true := bne_iff_ne.mpr c74
                                  obtain rfl := Option.some.inj H
                                  obtain ⟨wa, wcap, hwa0, hgs⟩ := GM.out
                                  have hg0 : wc.cell? ⟨0, 0, none⟩ = some (.slice (some wa) 28 wcap) := Mine.cell_below hwa0 HB.out
                                  have hgw := (show ∀ (i : Nat) (x : List UInt8), markList[i]? = some x → wc.cell? (wa.add i) = some (.string ⟨x.toArray⟩) from fun i x hx => Mine.cell_below (hgs i x hx) HB.out)
                                  clear hwa0 hgs
                                  go_wp2
                                  go_loopg [6, 21] 29 (fun kq v6 v21 w' => ∃ (x kd : Int), v6 = .int .i64 kd ∧ v21 = .int .i64 x ∧ Aside0 (wc = w') ∧ Aside0 (0 ≤ x ∧ x ≤ 28 ∧ (kq : Int) + x = 29) ∧ Aside0 (kd = if ((markList.take x.toNat).any fun y => y == (strOfNums y187).toList) = true then 4 else 0))
                                  case atStart => exact ⟨0, 0, rfl, rfl, ⟨rfl⟩, ⟨by decide, by decide, by decide⟩, ⟨rfl⟩⟩
                                  case round =>
                                    clear hg0
                                    obtain ⟨x, kd, rfl, rfl, hww, HM, HD⟩ := hrel
                                    obtain rfl := hww.out
                                    clear hww
                                    cases gk with
                                    | zero => have := HM.out; omega
                                    | succ k1 =>
                                      by_cases cx : x < 28
                                      · have p9 : 0 ≤ x := HM.out.1
                                        obtain ⟨m, hm⟩ : ∃ m, markList[x.toNat]? = some m := ⟨_, List.getElem?_eq_getElem (show x.toNat < 28 by omega)⟩
                                        obtain ⟨mb, hmb⟩ : ∃ b_ : ByteArray, (⟨m.toArray⟩ : ByteArray) = b_ := ⟨_, rfl⟩
                                        have hcx := hgw x.toNat m hm
                                        rw [hmb] at hcx
                                        have hlist : mb.toList = m := by rw [← hmb, ByteArray.toList_eq]
                                        have hw : wrap64 (x + 1) = x + 1 := by have := HM.out; unfold wrap64; omega
                                        have cx0 : decide (x < 28) = true := decide_eq_true cx
                                        have px := eq_true p9; have qx := eq_true cx; clear p9
                                        by_cases ce : m = (strOfNums y187).toList
                                        · have ce0 : (m == (strOfNums y187).toList) = true := beq_iff_eq.mpr ce
                                          have HCE := Aside0.mk ce; clear ce
                                          go_wp2
                                          all_goals
                                            go_roundg k1
                                            case measure => omega
                                            case rel =>
                                              refine ⟨x + 1, 4, rfl, by rw [hw], ⟨rfl⟩, ⟨by have hm_ := HM.out; omega⟩, ⟨?_⟩⟩
                                              rw [show (x + 1).toNat = x.toNat + 1 from by have hm_ := HM.out; omega, List.take_add_one, hm]
                                              simp [← HCE.out]
                                        · have ce0 : (m == (strOfNums y187).toList) = false := beq_eq_false_iff_ne.mpr ce
                                          have HCE := Aside0.mk ce; clear ce
                                          go_wp2
                                          all_goals
                                            go_roundg k1
                                            case measure => omega
                                            case rel =>
                                              refine ⟨x + 1, kd, rfl, by rw [hw], ⟨rfl⟩, ⟨by have hm_ := HM.out; omega⟩, ⟨?_⟩⟩
                                              rw [show (x + 1).toNat = x.toNat + 1 from by have hm_ := HM.out; omega, List.take_add_one, hm, HD.out]
                                              simp [ce0]
                                      · have cx0 : decide (x < 28) = false := decide_eq_false cx
                                        obtain rfl : x = 28 := by have := HM.out; omega
                                        have hkd := HD.out; clear HD
                                        rw [show ((markList.take (28 : Int).toNat).any fun y => y == (strOfNums y187).toList) = true from Option.some.inj A64.out] at hkd
                                        obtain rfl : kd = 4 := by rw [hkd]; rfl
                                        clear hkd
                                        have hcz77_0 : wc.cell? ⟨gb196, 0, none⟩ = some (.int .i64 t193) := (blk_cell BK196.out 0).trans rfl
                                        have hcz77_1 : wc.cell? ⟨gb196, 1, none⟩ = some (.int .i64 t194) := (blk_cell BK196.out 1).trans rfl
                                        have hcz77_2 : wc.cell? ⟨gb196, 2, none⟩ = some (.int .i64 t195) := (blk_cell BK196.out 2).trans rfl
                                        have hfz77_0 := blk_frozen BK196.out 0
                                        have hfz77_1 := blk_frozen BK196.out 1
                                        have hfz77_2 := blk_frozen BK196.out 2
                                        obtain ⟨Ao78, co78, eo78⟩ := Kd.R_slice HO_4.out
                                        subst eo78
                                        have p202 : 0 ≤ (0 : Int) := (by omega)
                                        have q202 : 0 < (t190.length : Int) := of_decide_eq_true (by first | (with_reducible assumption) | assumption)
                                        obtain ⟨ad202, e202, hx202_0, hx202_1, hx202_2, hx202_3, hx202_4⟩ := at_T34 (Kd.R_reads' HO_4.out).2.2 0 p202 q202
                                        cases e202
                                        have qi202 : (0 < t190.length) = True := eq_true (by omega)
                                        (try rw [show ((0 : Int)).toNat = 0 from rfl] at hx202_0)
                                        (try rw [show 0 * 5 = 0 from rfl] at hx202_0)
                                        (try rw [Addr.add_zero'] at hx202_0)
                                        (try rw [show ((0 : Int)).toNat = 0 from rfl] at hx202_1)
                                        (try rw [show 0 * 5 = 0 from rfl] at hx202_1)
                                        (try rw [Addr.add_zero'] at hx202_1)
                                        (try rw [show ((0 : Int)).toNat = 0 from rfl] at hx202_2)
                                        (try rw [show 0 * 5 = 0 from rfl] at hx202_2)
                                        (try rw [Addr.add_zero'] at hx202_2)
                                        (try rw [show ((0 : Int)).toNat = 0 from rfl] at hx202_3)
                                        (try rw [show 0 * 5 = 0 from rfl] at hx202_3)
                                        (try rw [Addr.add_zero'] at hx202_3)
                                        (try rw [show ((0 : Int)).toNat = 0 from rfl] at hx202_4)
                                        (try rw [show 0 * 5 = 0 from rfl] at hx202_4)
                                        (try rw [Addr.add_zero'] at hx202_4)
                                        replace p202 := eq_true p202
                                        replace q202 := eq_true q202
                                        go_wp2
                                        all_goals
                                          go_ret
                                          exact ⟨by first | rfl | (simp [errW_none, errW_some] <;> rfl) | (simp [*, errW_none, errW_some] <;> rfl) | (simp_all; done), by repeat (first | (with_reducible first | exact HB.out | apply below_alloc | apply pw_below_drewN | apply below_drew1 | refine below_set ?_ GE196.out) | exact HB.out)⟩
                              · rw [if_neg c73] at H
                                exact absurd H (by simp)
                            · rw [if_neg c72] at H
                              have c72b0 : ((t190.length : Int) == 2) = false := beq_eq_false_iff_ne.mpr c72
                              have c72b1 : ((t190.length : Int) != 2) = true := bne_iff_ne.mpr c72
                              obtain rfl := Option.some.inj H
                              obtain ⟨wa, wcap, hwa0, hgs⟩ := GM.out
                              have hg0 : wc.cell? ⟨0, 0, none⟩ = some (.slice (some wa) 28 wcap) := Mine.cell_below hwa0 HB.out
                              have hgw := (show ∀ (i : Nat) (x : List UInt8), markList[i]? = some x → wc.cell? (wa.add i) = some (.string ⟨x.toArray⟩) from fun i x hx => Mine.cell_below (hgs i x hx) HB.out)
                              clear hwa0 hgs
                              go_wp2
                              go_loopg [6, 21] 29 (fun kq v6 v21 w' => ∃ (x kd : Int), v6 = .int .i64 kd ∧ v21 = .int .i64 x ∧ Aside0 (wc = w') ∧ Aside0 (0 ≤ x ∧ x ≤ 28 ∧ (kq : Int) + x = 29) ∧ Aside0 (kd = if ((markList.take x.toNat).any fun y => y == (strOfNums y187).toList) = true then 4 else 0))
                              case atStart => exact ⟨0, 0, rfl, rfl, ⟨rfl⟩, ⟨by decide, by decide, by decide⟩, ⟨rfl⟩⟩
                              case round =>
                                clear hg0
                                obtain ⟨x, kd, rfl, rfl, hww, HM, HD⟩ := hrel
                                obtain rfl := hww.out
                                clear hww
                                cases gk with
                                | zero => have := HM.out; omega
                                | succ k1 =>
                                  by_cases cx : x < 28
                                  · have p9 : 0 ≤ x := HM.out.1
                                    obtain ⟨m, hm⟩ : ∃ m, markList[x.toNat]? = some m := ⟨_, List.getElem?_eq_getElem (show x.toNat < 28 by omega)⟩
                                    obtain ⟨mb, hmb⟩ : ∃ b_ : ByteArray, (⟨m.toArray⟩ : ByteArray) = b_ := ⟨_, rfl⟩
                                    have hcx := hgw x.toNat m hm
                                    rw [hmb] at hcx
                                    have hlist : mb.toList = m := by rw [← hmb, ByteArray.toList_eq]
                                    have hw : wrap64 (x + 1) = x + 1 := by have := HM.out; unfold wrap64; omega
                                    have cx0 : decide (x < 28) = true := decide_eq_true cx
                                    have px := eq_true p9; have qx := eq_true cx; clear p9
                                    by_cases ce : m = (strOfNums y187).toList
                                    · have ce0 : (m == (strOfNums y187).toList) = true := beq_iff_eq.mpr ce
                                      have HCE := Aside0.mk ce; clear ce
                                      go_wp2
                                      all_goals
                                        go_roundg k1
                                        case measure => omega
                                        case rel =>
                                          refine ⟨x + 1, 4, rfl, by rw [hw], ⟨rfl⟩, ⟨by have hm_ := HM.out; omega⟩, ⟨?_⟩⟩
                                          rw [show (x + 1).toNat = x.toNat + 1 from by have hm_ := HM.out; omega, List.take_add_one, hm]
                                          simp [← HCE.out]
                                    · have ce0 : (m == (strOfNums y187).toList) = false := beq_eq_false_iff_ne.mpr ce
                                      have HCE := Aside0.mk ce; clear ce
                                      go_wp2
                                      all_goals
                                        go_roundg k1
                                        case measure => omega
                                        case rel =>
                                          refine ⟨x + 1, kd, rfl, by rw [hw], ⟨rfl⟩, ⟨by have hm_ := HM.out; omega⟩, ⟨?_⟩⟩
                                          rw [show (x + 1).toNat = x.toNat + 1 from by have hm_ := HM.out; omega, List.take_add_one, hm, HD.out]
                                          simp [ce0]
                                  · have cx0 : decide (x < 28) = false := decide_eq_false cx
                                    obtain rfl : x = 28 := by have := HM.out; omega
                                    have hkd := HD.out; clear HD
                                    rw [show ((markList.take (28 : Int).toNat).any fun y => y == (strOfNums y187).toList) = true from Option.some.inj A64.out] at hkd
                                    obtain rfl : kd = 4 := by rw [hkd]; rfl
                                    clear hkd
                                    have hcz79_0 : wc.cell? ⟨gb196, 0, none⟩ = some (.int .i64 t193) := (blk_cell BK196.out 0).trans rfl
                                    have hcz79_1 : wc.cell? ⟨gb196, 1, none⟩ = some (.int .i64 t194) := (blk_cell BK196.out 1).trans rfl
                                    have hcz79_2 : wc.cell? ⟨gb196, 2, none⟩ = some (.int .i64 t195) := (blk_cell BK196.out 2).trans rfl
                                    have hfz79_0 := blk_frozen BK196.out 0
                                    have hfz79_1 := blk_frozen BK196.out 1
                                    have hfz79_2 := blk_frozen BK196.out 2
                                    obtain ⟨Ao80, co80, eo80⟩ := Kd.R_slice HO_4.out
                                    subst eo80
                                    go_wp2
                                    all_goals
                                      go_ret
                                      exact ⟨by first | rfl | (simp [errW_none, errW_some] <;> rfl) | (simp [*, errW_none, errW_some] <;> rfl) | (simp_all; done), by repeat (first | (with_reducible first | exact HB.out | apply below_alloc | apply pw_below_drewN | apply below_drew1 | refine below_set ?_ GE196.out) | exact HB.out)⟩
                          · rw [if_neg c71] at H
                            have c71b0 : (t193 == 0 && ((t194 == 0 && (t195 == 0)))) = false := by simpa using c71
                            (try (have c71b1 : decide (t193 = 0 && ((t194 == 0 && (t195 == 0)))) = false := by simpa using c71))
                            (try (have c71b2 : (t193 == 0 && ((t194 == 0 && (t195 == 0)))) = false := by simpa using c71))
                            (try (have c71b3 : ¬ (t193 = 0 && ((t194 == 0 && (t195 == 0)))) := by simpa using c71))
                            clear c71
                            obtain rfl := Option.some.inj H
                            obtain ⟨wa, wcap, hwa0, hgs⟩ := GM.out
                            have hg0 : wc.cell? ⟨0, 0, none⟩ = some (.slice (some wa) 28 wcap) := Mine.cell_below hwa0 HB.out
                            have hgw := (show ∀ (i : Nat) (x : List UInt8), markList[i]? = some x → wc.cell? (wa.add i) = some (.string ⟨x.toArray⟩) from fun i x hx => Mine.cell_below (hgs i x hx) HB.out)
                            clear hwa0 hgs
                            go_wp2
                            go_loopg [6, 21] 29 (fun kq v6 v21 w' => ∃ (x kd : Int), v6 = .int .i64 kd ∧ v21 = .int .i64 x ∧ Aside0 (wc = w') ∧ Aside0 (0 ≤ x ∧ x ≤ 28 ∧ (kq : Int) + x = 29) ∧ Aside0 (kd = if ((markList.take x.toNat).any fun y => y == (strOfNums y187).toList) = true then 4 else 0))
                            case atStart => exact ⟨0, 0, rfl, rfl, ⟨rfl⟩, ⟨by decide, by decide, by decide⟩, ⟨rfl⟩⟩
                            case round =>
                              clear hg0
                              obtain ⟨x, kd, rfl, rfl, hww, HM, HD⟩ := hrel
                              obtain rfl := hww.out
                              clear hww
                              cases gk with
                              | zero => have := HM.out; omega
                              | succ k1 =>
                                by_cases cx : x < 28
                                · have p9 : 0 ≤ x := HM.out.1
                                  obtain ⟨m, hm⟩ : ∃ m, markList[x.toNat]? = some m := ⟨_, List.getElem?_eq_getElem (show x.toNat < 28 by omega)⟩
                                  obtain ⟨mb, hmb⟩ : ∃ b_ : ByteArray, (⟨m.toArray⟩ : ByteArray) = b_ := ⟨_, rfl⟩
                                  have hcx := hgw x.toNat m hm
                                  rw [hmb] at hcx
                                  have hlist : mb.toList = m := by rw [← hmb, ByteArray.toList_eq]
                                  have hw : wrap64 (x + 1) = x + 1 := by have := HM.out; unfold wrap64; omega
                                  have cx0 : decide (x < 28) = true := decide_eq_true cx
                                  have px := eq_true p9; have qx := eq_true cx; clear p9
                                  by_cases ce : m = (strOfNums y187).toList
                                  · have ce0 : (m == (strOfNums y187).toList) = true := beq_iff_eq.mpr ce
                                    have HCE := Aside0.mk ce; clear ce
                                    go_wp2
                                    all_goals
                                      go_roundg k1
                                      case measure => omega
                                      case rel =>
                                        refine ⟨x + 1, 4, rfl, by rw [hw], ⟨rfl⟩, ⟨by have hm_ := HM.out; omega⟩, ⟨?_⟩⟩
                                        rw [show (x + 1).toNat = x.toNat + 1 from by have hm_ := HM.out; omega, List.take_add_one, hm]
                                        simp [← HCE.out]
                                  · have ce0 : (m == (strOfNums y187).toList) = false := beq_eq_false_iff_ne.mpr ce
                                    have HCE := Aside0.mk ce; clear ce
                                    go_wp2
                                    all_goals
                                      go_roundg k1
                                      case measure => omega
                                      case rel =>
                                        refine ⟨x + 1, kd, rfl, by rw [hw], ⟨rfl⟩, ⟨by have hm_ := HM.out; omega⟩, ⟨?_⟩⟩
                                        rw [show (x + 1).toNat = x.toNat + 1 from by have hm_ := HM.out; omega, List.take_add_one, hm, HD.out]
                                        simp [ce0]
                                · have cx0 : decide (x < 28) = false := decide_eq_false cx
                                  obtain rfl : x = 28 := by have := HM.out; omega
                                  have hkd := HD.out; clear HD
                                  rw [show ((markList.take (28 : Int).toNat).any fun y => y == (strOfNums y187).toList) = true from Option.some.inj A64.out] at hkd
                                  obtain rfl : kd = 4 := by rw [hkd]; rfl
                                  clear hkd
                                  have hcz81_0 : wc.cell? ⟨gb196, 0, none⟩ = some (.int .i64 t193) := (blk_cell BK196.out 0).trans rfl
                                  have hcz81_1 : wc.cell? ⟨gb196, 1, none⟩ = some (.int .i64 t194) := (blk_cell BK196.out 1).trans rfl
                                  have hcz81_2 : wc.cell? ⟨gb196, 2, none⟩ = some (.int .i64 t195) := (blk_cell BK196.out 2).trans rfl
                                  have hfz81_0 := blk_frozen BK196.out 0
                                  have hfz81_1 := blk_frozen BK196.out 1
                                  have hfz81_2 := blk_frozen BK196.out 2
                                  go_wp2
                                  all_goals
                                    go_ret
                                    exact ⟨by first | rfl | (simp [errW_none, errW_some] <;> rfl) | (simp [*, errW_none, errW_some] <;> rfl) | (simp_all; done), by repeat (first | (with_reducible first | exact HB.out | apply below_alloc | apply pw_below_drewN | apply below_drew1 | refine below_set ?_ GE196.out) | exact HB.out)⟩
                      · replace c65 := Bool.eq_false_iff.mpr c65
                        subst c65
                        have H1 : (if 0 = 0 then (if (t193 == 10 && ((t194 == 1 && (t195 == 1)))) = true then (some ((t190.length : Int) == 0)) else (some false)) else (if (t193 == 0 && ((t194 == 0 && (t195 == 0)))) = true then (if (t190.length : Int) = 2 then (if 0 < (t190.length : Int) then (if ((rd_T34 t190 0).f0) = 0 then (some (((rd_T34 t190 0).f1).toList == (strOfNums y187).toList)) else (some false)) else (none)) else (some false)) else (some false))) = some r := by rw [if_neg (show ¬ (false = true) by decide)] at H; exact H
                        clear H
                        have H := H1
                        clear H1
                        by_cases c82 : 0 = 0
                        · rw [if_pos c82] at H
                          have c82b0 : (0 == 0) = true := beq_iff_eq.mpr c82
                          have c82b1 : (0 != 0) = false := bne_eq_false_iff_eq.mpr c82
                          clear c82
                          by_cases c83 : (t193 == 10 && ((t194 == 1 && (t195 == 1)))) = true
                          · rw [if_pos c83] at H
                            have c83b0 : (t193 == 10 && ((t194 == 1 && (t195 == 1)))) = true := c83
                            (try (have c83b1 : decide (t193 = 10 && ((t194 == 1 && (t195 == 1)))) = true := by simpa using c83))
                            (try (have c83b2 : (t193 == 10 && ((t194 == 1 && (t195 == 1)))) = true := by simpa using c83))
                            clear c83
                            obtain rfl := Option.some.inj H
                            obtain ⟨wa, wcap, hwa0, hgs⟩ := GM.out
                            have hg0 : wc.cell? ⟨0, 0, none⟩ = some (.slice (some wa) 28 wcap) := Mine.cell_below hwa0 HB.out
                            have hgw := (show ∀ (i : Nat) (x : List UInt8), markList[i]? = some x → wc.cell? (wa.add i) = some (.string ⟨x.toArray⟩) from fun i x hx => Mine.cell_below (hgs i x hx) HB.out)
                            clear hwa0 hgs
                            go_wp2
                            go_loopg [6, 21] 29 (fun kq v6 v21 w' => ∃ (x kd : Int), v6 = .int .i64 kd ∧ v21 = .int .i64 x ∧ Aside0 (wc = w') ∧ Aside0 (0 ≤ x ∧ x ≤ 28 ∧ (kq : Int) + x = 29) ∧ Aside0 (kd = if ((markList.take x.toNat).any fun y => y == (strOfNums y187).toList) = true then 4 else 0))
                            case atStart => exact ⟨0, 0, rfl, rfl, ⟨rfl⟩, ⟨by decide, by decide, by decide⟩, ⟨rfl⟩⟩
                            case round =>
                              clear hg0
                              obtain ⟨x, kd, rfl, rfl, hww, HM, HD⟩ := hrel
                              obtain rfl := hww.out
                              clear hww
                              cases gk with
                              | zero => have := HM.out; omega
                              | succ k1 =>
                                by_cases cx : x < 28
                                · have p9 : 0 ≤ x := HM.out.1
                                  obtain ⟨m, hm⟩ : ∃ m, markList[x.toNat]? = some m := ⟨_, List.getElem?_eq_getElem (show x.toNat < 28 by omega)⟩
                                  obtain ⟨mb, hmb⟩ : ∃ b_ : ByteArray, (⟨m.toArray⟩ : ByteArray) = b_ := ⟨_, rfl⟩
                                  have hcx := hgw x.toNat m hm
                                  rw [hmb] at hcx
                                  have hlist : mb.toList = m := by rw [← hmb, ByteArray.toList_eq]
                                  have hw : wrap64 (x + 1) = x + 1 := by have := HM.out; unfold wrap64; omega
                                  have cx0 : decide (x < 28) = true := decide_eq_true cx
                                  have px := eq_true p9; have qx := eq_true cx; clear p9
                                  by_cases ce : m = (strOfNums y187).toList
                                  · have ce0 : (m == (strOfNums y187).toList) = true := beq_iff_eq.mpr ce
                                    have HCE := Aside0.mk ce; clear ce
                                    go_wp2
                                    all_goals
                                      go_roundg k1
                                      case measure => omega
                                      case rel =>
                                        refine ⟨x + 1, 4, rfl, by rw [hw], ⟨rfl⟩, ⟨by have hm_ := HM.out; omega⟩, ⟨?_⟩⟩
                                        rw [show (x + 1).toNat = x.toNat + 1 from by have hm_ := HM.out; omega, List.take_add_one, hm]
                                        simp [← HCE.out]
                                  · have ce0 : (m == (strOfNums y187).toList) = false := beq_eq_false_iff_ne.mpr ce
                                    have HCE := Aside0.mk ce; clear ce
                                    go_wp2
                                    all_goals
                                      go_roundg k1
                                      case measure => omega
                                      case rel =>
                                        refine ⟨x + 1, kd, rfl, by rw [hw], ⟨rfl⟩, ⟨by have hm_ := HM.out; omega⟩, ⟨?_⟩⟩
                                        rw [show (x + 1).toNat = x.toNat + 1 from by have hm_ := HM.out; omega, List.take_add_one, hm, HD.out]
                                        simp [ce0]
                                · have cx0 : decide (x < 28) = false := decide_eq_false cx
                                  obtain rfl : x = 28 := by have := HM.out; omega
                                  have hkd := HD.out; clear HD
                                  rw [show ((markList.take (28 : Int).toNat).any fun y => y == (strOfNums y187).toList) = false from Option.some.inj A64.out] at hkd
                                  obtain rfl : kd = 0 := by rw [hkd]; rfl
                                  clear hkd
                                  have hcz84_0 : wc.cell? ⟨gb196, 0, none⟩ = some (.int .i64 t193) := (blk_cell BK196.out 0).trans rfl
                                  have hcz84_1 : wc.cell? ⟨gb196, 1, none⟩ = some (.int .i64 t194) := (blk_cell BK196.out 1).trans rfl
                                  have hcz84_2 : wc.cell? ⟨gb196, 2, none⟩ = some (.int .i64 t195) := (blk_cell BK196.out 2).trans rfl
                                  have hfz84_0 := blk_frozen BK196.out 0
                                  have hfz84_1 := blk_frozen BK196.out 1
                                  have hfz84_2 := blk_frozen BK196.out 2
                                  obtain ⟨Ao85, co85, eo85⟩ := Kd.R_slice HO_4.out
                                  subst eo85
                                  go_wp2
                                  all_goals
                                    go_ret
                                    exact ⟨by first | rfl | (simp [errW_none, errW_some] <;> rfl) | (simp [*, errW_none, errW_some] <;> rfl) | (simp_all; done), by repeat (first | (with_reducible first | exact HB.out | apply below_alloc | apply pw_below_drewN | apply below_drew1 | refine below_set ?_ GE196.out) | exact HB.out)⟩
                          · rw [if_neg c83] at H
                            have c83b0 : (t193 == 10 && ((t194 == 1 && (t195 == 1)))) = false := by simpa using c83
                            (try (have c83b1 : decide (t193 = 10 && ((t194 == 1 && (t195 == 1)))) = false := by simpa using c83))
                            (try (have c83b2 : (t193 == 10 && ((t194 == 1 && (t195 == 1)))) = false := by simpa using c83))
                            (try (have c83b3 : ¬ (t193 = 10 && ((t194 == 1 && (t195 == 1)))) := by simpa using c83))
                            clear c83
                            obtain rfl := Option.some.inj H
                            obtain ⟨wa, wcap, hwa0, hgs⟩ := GM.out
                            have hg0 : wc.cell? ⟨0, 0, none⟩ = some (.slice (some wa) 28 wcap) := Mine.cell_below hwa0 HB.out
                            have hgw := (show ∀ (i : Nat) (x : List UInt8), markList[i]? = some x → wc.cell? (wa.add i) = some (.string ⟨x.toArray⟩) from fun i x hx => Mine.cell_below (hgs i x hx) HB.out)
                            clear hwa0 hgs
                            go_wp2
                            go_loopg [6, 21] 29 (fun kq v6 v21 w' => ∃ (x kd : Int), v6 = .int .i64 kd ∧ v21 = .int .i64 x ∧ Aside0 (wc = w') ∧ Aside0 (0 ≤ x ∧ x ≤ 28 ∧ (kq : Int) + x = 29) ∧ Aside0 (kd = if ((markList.take x.toNat).any fun y => y == (strOfNums y187).toList) = true then 4 else 0))
                            case atStart => exact ⟨0, 0, rfl, rfl, ⟨rfl⟩, ⟨by decide, by decide, by decide⟩, ⟨rfl⟩⟩
                            case round =>
                              clear hg0
                              obtain ⟨x, kd, rfl, rfl, hww, HM, HD⟩ := hrel
                              obtain rfl := hww.out
                              clear hww
                              cases gk with
                              | zero => have := HM.out; omega
                              | succ k1 =>
                                by_cases cx : x < 28
                                · have p9 : 0 ≤ x := HM.out.1
                                  obtain ⟨m, hm⟩ : ∃ m, markList[x.toNat]? = some m := ⟨_, List.getElem?_eq_getElem (show x.toNat < 28 by omega)⟩
                                  obtain ⟨mb, hmb⟩ : ∃ b_ : ByteArray, (⟨m.toArray⟩ : ByteArray) = b_ := ⟨_, rfl⟩
                                  have hcx := hgw x.toNat m hm
                                  rw [hmb] at hcx
                                  have hlist : mb.toList = m := by rw [← hmb, ByteArray.toList_eq]
                                  have hw : wrap64 (x + 1) = x + 1 := by have := HM.out; unfold wrap64; omega
                                  have cx0 : decide (x < 28) = true := decide_eq_true cx
                                  have px := eq_true p9; have qx := eq_true cx; clear p9
                                  by_cases ce : m = (strOfNums y187).toList
                                  · have ce0 : (m == (strOfNums y187).toList) = true := beq_iff_eq.mpr ce
                                    have HCE := Aside0.mk ce; clear ce
                                    go_wp2
                                    all_goals
                                      go_roundg k1
                                      case measure => omega
                                      case rel =>
                                        refine ⟨x + 1, 4, rfl, by rw [hw], ⟨rfl⟩, ⟨by have hm_ := HM.out; omega⟩, ⟨?_⟩⟩
                                        rw [show (x + 1).toNat = x.toNat + 1 from by have hm_ := HM.out; omega, List.take_add_one, hm]
                                        simp [← HCE.out]
                                  · have ce0 : (m == (strOfNums y187).toList) = false := beq_eq_false_iff_ne.mpr ce
                                    have HCE := Aside0.mk ce; clear ce
                                    go_wp2
                                    all_goals
                                      go_roundg k1
                                      case measure => omega
                                      case rel =>
                                        refine ⟨x + 1, kd, rfl, by rw [hw], ⟨rfl⟩, ⟨by have hm_ := HM.out; omega⟩, ⟨?_⟩⟩
                                        rw [show (x + 1).toNat = x.toNat + 1 from by have hm_ := HM.out; omega, List.take_add_one, hm, HD.out]
                                        simp [ce0]
                                · have cx0 : decide (x < 28) = false := decide_eq_false cx
                                  obtain rfl : x = 28 := by have := HM.out; omega
                                  have hkd := HD.out; clear HD
                                  rw [show ((markList.take (28 : Int).toNat).any fun y => y == (strOfNums y187).toList) = false from Option.some.inj A64.out] at hkd
                                  obtain rfl : kd = 0 := by rw [hkd]; rfl
                                  clear hkd
                                  have hcz86_0 : wc.cell? ⟨gb196, 0, none⟩ = some (.int .i64 t193) := (blk_cell BK196.out 0).trans rfl
                                  have hcz86_1 : wc.cell? ⟨gb196, 1, none⟩ = some (.int .i64 t194) := (blk_cell BK196.out 1).trans rfl
                                  have hcz86_2 : wc.cell? ⟨gb196, 2, none⟩ = some (.int .i64 t195) := (blk_cell BK196.out 2).trans rfl
                                  have hfz86_0 := blk_frozen BK196.out 0
                                  have hfz86_1 := blk_frozen BK196.out 1
                                  have hfz86_2 := blk_frozen BK196.out 2
                                  go_wp2
                                  all_goals
                                    go_ret
                                    exact ⟨by first | rfl | (simp [errW_none, errW_some] <;> rfl) | (simp [*, errW_none, errW_some] <;> rfl) | (simp_all; done), by repeat (first | (with_reducible first | exact HB.out | apply below_alloc | apply pw_below_drewN | apply below_drew1 | refine below_set ?_ GE196.out) | exact HB.out)⟩
                        · rw [if_neg c82] at H
                          have c82b0 : (0 == 0) = false := beq_eq_false_iff_ne.mpr c82
                          have c82b1 : (0 != 0) = true := bne_iff_ne.mpr c82
                          by_cases c87 : (t193 == 0 && ((t194 == 0 && (t195 == 0)))) = true
                          · rw [if_pos c87] at H
                            have c87b0 : (t193 == 0 && ((t194 == 0 && (t195 == 0)))) = true := c87
                            (try (have c87b1 : decide (t193 = 0 && ((t194 == 0 && (t195 == 0)))) = true := by simpa using c87))
                            (try (have c87b2 : (t193 == 0 && ((t194 == 0 && (t195 == 0)))) = true := by simpa using c87))
                            clear c87
                            by_cases c88 : (t190.length : Int) = 2
                            · rw [if_pos c88] at H
                              have c88b0 : ((t190.length : Int) == 2) = true := beq_iff_eq.mpr c88
                              have c88b1 : ((t190.length : Int) != 2) = false := bne_eq_false_iff_eq.mpr c88
                              clear c88
                              by_cases c89 : 0 < (t190.length : Int)
                              · rw [if_pos c89] at H
                                have c89b0 : decide (0 < (t190.length : Int)) = true := decide_eq_true c89
                                have c89b1 : decide (0 < t190.length) = true := decide_eq_true (by omega)
                                clear c89
                                by_cases c90 : ((rd_T34 t190 0).f0) = 0
                                · rw [if_pos c90] at H
                                  have c90b0 : (((rd_T34 t190 0).f0) == 0) = true := beq_iff_eq.mpr c90
                                  have c90b1 : (((rd_T34 t190 0).f0) != 0) = false := bne_eq_false_iff_eq.mpr c90
                                  clear c90
                                  obtain rfl := Option.some.inj H
                                  obtain ⟨wa, wcap, hwa0, hgs⟩ := GM.out
                                  have hg0 : wc.cell? ⟨0, 0, none⟩ = some (.slice (some wa) 28 wcap) := Mine.cell_below hwa0 HB.out
                                  have hgw := (show ∀ (i : Nat) (x : List UInt8), markList[i]? = some x → wc.cell? (wa.add i) = some (.string ⟨x.toArray⟩) from fun i x hx => Mine.cell_below (hgs i x hx) HB.out)
                                  clear hwa0 hgs
                                  go_wp2
                                  go_loopg [6, 21] 29 (fun kq v6 v21 w' => ∃ (x kd : Int), v6 = .int .i64 kd ∧ v21 = .int .i64 x ∧ Aside0 (wc = w') ∧ Aside0 (0 ≤ x ∧ x ≤ 28 ∧ (kq : Int) + x = 29) ∧ Aside0 (kd = if ((markList.take x.toNat).any fun y => y == (strOfNums y187).toList) = true then 4 else 0))
                                  case atStart => exact ⟨0, 0, rfl, rfl, ⟨rfl⟩, ⟨by decide, by decide, by decide⟩, ⟨rfl⟩⟩
                                  case round =>
                                    clear hg0
                                    obtain ⟨x, kd, rfl, rfl, hww, HM, HD⟩ := hrel
                                    obtain rfl := hww.out
                                    clear hww
                                    cases gk with
                                    | zero => have := HM.out; omega
                                    | succ k1 =>
                                      by_cases cx : x < 28
                                      · have p9 : 0 ≤ x := HM.out.1
                                        obtain ⟨m, hm⟩ : ∃ m, markList[x.toNat]? = some m := ⟨_, List.getElem?_eq_getElem (show x.toNat < 28 by omega)⟩
                                        obtain ⟨mb, hmb⟩ : ∃ b_ : ByteArray, (⟨m.toArray⟩ : ByteArray) = b_ := ⟨_, rfl⟩
                                        have hcx := hgw x.toNat m hm
                                        rw [hmb] at hcx
                                        have hlist : mb.toList = m := by rw [← hmb, ByteArray.toList_eq]
                                        have hw : wrap64 (x + 1) = x + 1 := by have := HM.out; unfold wrap64; omega
                                        have cx0 : decide (x < 28) = true := decide_eq_true cx
                                        have px := eq_true p9; have qx := eq_true cx; clear p9
                                        by_cases ce : m = (strOfNums y187).toList
                                        · have ce0 : (m == (strOfNums y187).toList) = true := beq_iff_eq.mpr ce
                                          have HCE := Aside0.mk ce; clear ce
                                          go_wp2
                                          all_goals
                                            go_roundg k1
                                            case measure => omega
                                            case rel =>
                                              refine ⟨x + 1, 4, rfl, by rw [hw], ⟨rfl⟩, ⟨by have hm_ := HM.out; omega⟩, ⟨?_⟩⟩
                                              rw [show (x + 1).toNat = x.toNat + 1 from by have hm_ := HM.out; omega, List.take_add_one, hm]
                                              simp [← HCE.out]
                                        · have ce0 : (m == (strOfNums y187).toList) = false := beq_eq_false_iff_ne.mpr ce
                                          have HCE := Aside0.mk ce; clear ce
                                          go_wp2
                                          all_goals
                                            go_roundg k1
                                            case measure => omega
                                            case rel =>
                                              refine ⟨x + 1, kd, rfl, by rw [hw], ⟨rfl⟩, ⟨by have hm_ := HM.out; omega⟩, ⟨?_⟩⟩
                                              rw [show (x + 1).toNat = x.toNat + 1 from by have hm_ := HM.out; omega, List.take_add_one, hm, HD.out]
                                              simp [ce0]
                                      · have cx0 : decide (x < 28) = false := decide_eq_false cx
                                        obtain rfl : x = 28 := by have := HM.out; omega
                                        have hkd := HD.out; clear HD
                                        rw [show ((markList.take (28 : Int).toNat).any fun y => y == (strOfNums y187).toList) = false from Option.some.inj A64.out] at hkd
                                        obtain rfl : kd = 0 := by rw [hkd]; rfl
                                        clear hkd
                                        have hcz91_0 : wc.cell? ⟨gb196, 0, none⟩ = some (.int .i64 t193) := (blk_cell BK196.out 0).trans rfl
                                        have hcz91_1 : wc.cell? ⟨gb196, 1, none⟩ = some (.int .i64 t194) := (blk_cell BK196.out 1).trans rfl
                                        have hcz91_2 : wc.cell? ⟨gb196, 2, none⟩ = some (.int .i64 t195) := (blk_cell BK196.out 2).trans rfl
                                        have hfz91_0 := blk_frozen BK196.out 0
                                        have hfz91_1 := blk_frozen BK196.out 1
                                        have hfz91_2 := blk_frozen BK196.out 2
                                        obtain ⟨Ao92, co92, eo92⟩ := Kd.R_slice HO_4.out
                                        subst eo92
                                        have p204 : 0 ≤ (0 : Int) := (by omega)
                                        have q204 : 0 < (t190.length : Int) := of_decide_eq_true (by first | (with_reducible assumption) | assumption)
                                        obtain ⟨ad204, e204, hx204_0, hx204_1, hx204_2, hx204_3, hx204_4⟩ := at_T34 (Kd.R_reads' HO_4.out).2.2 0 p204 q204
                                        cases e204
                                        have qi204 : (0 < t190.length) = True := eq_true (by omega)
                                        (try rw [show ((0 : Int)).toNat = 0 from rfl] at hx204_0)
                                        (try rw [show 0 * 5 = 0 from rfl] at hx204_0)
                                        (try rw [Addr.add_zero'] at hx204_0)
                                        (try rw [show ((0 : Int)).toNat = 0 from rfl] at hx204_1)
                                        (try rw [show 0 * 5 = 0 from rfl] at hx204_1)
                                        (try rw [Addr.add_zero'] at hx204_1)
                                        (try rw [show ((0 : Int)).toNat = 0 from rfl] at hx204_2)
                                        (try rw [show 0 * 5 = 0 from rfl] at hx204_2)
                                        (try rw [Addr.add_zero'] at hx204_2)
                                        (try rw [show ((0 : Int)).toNat = 0 from rfl] at hx204_3)
                                        (try rw [show 0 * 5 = 0 from rfl] at hx204_3)
                                        (try rw [Addr.add_zero'] at hx204_3)
                                        (try rw [show ((0 : Int)).toNat = 0 from rfl] at hx204_4)
                                        (try rw [show 0 * 5 = 0 from rfl] at hx204_4)
                                        (try rw [Addr.add_zero'] at hx204_4)
                                        replace p204 := eq_true p204
                                        replace q204 := eq_true q204
                                        have p205 : 0 ≤ (0 : Int) := (by omega)
                                        have q205 : 0 < (t190.length : Int) := of_decide_eq_true (by first | (with_reducible assumption) | assumption)
                                        obtain ⟨ad205, e205, hx205_0, hx205_1, hx205_2, hx205_3, hx205_4⟩ := at_T34 (Kd.R_reads' HO_4.out).2.2 0 p205 q205
                                        obtain rfl : ad204 = ad205 := (by injection e205)
                                        have qi205 : (0 < t190.length) = True := eq_true (by omega)
                                        (try rw [show ((0 : Int)).toNat = 0 from rfl] at hx205_0)
                                        (try rw [show 0 * 5 = 0 from rfl] at hx205_0)
                                        (try rw [Addr.add_zero'] at hx205_0)
                                        (try rw [show ((0 : Int)).toNat = 0 from rfl] at hx205_1)
                                        (try rw [show 0 * 5 = 0 from rfl] at hx205_1)
                                        (try rw [Addr.add_zero'] at hx205_1)
                                        (try rw [show ((0 : Int)).toNat = 0 from rfl] at hx205_2)
                                        (try rw [show 0 * 5 = 0 from rfl] at hx205_2)
                                        (try rw [Addr.add_zero'] at hx205_2)
                                        (try rw [show ((0 : Int)).toNat = 0 from rfl] at hx205_3)
                                        (try rw [show 0 * 5 = 0 from rfl] at hx205_3)
                                        (try rw [Addr.add_zero'] at hx205_3)
                                        (try rw [show ((0 : Int)).toNat = 0 from rfl] at hx205_4)
                                        (try rw [show 0 * 5 = 0 from rfl] at hx205_4)
                                        (try rw [Addr.add_zero'] at hx205_4)
                                        replace p205 := eq_true p205
                                        replace q205 := eq_true q205
                                        go_wp2
                                        all_goals
                                          go_ret
                                          exact ⟨by first | rfl | (simp [errW_none, errW_some] <;> rfl) | (simp [*, errW_none, errW_some] <;> rfl) | (simp_all; done), by repeat (first | (with_reducible first | exact HB.out | apply below_alloc | apply pw_below_drewN | apply below_drew1 | refine below_set ?_ GE196.out) | exact HB.out)⟩
                                · rw [if_neg c90] at H
                                  have c90b0 : (((rd_T34 t190 0).f0) == 0) = false := beq_eq_false_iff_ne.mpr c90
                                  have c90b1 : (((rd_T34 t190 0).f0) != 0) = true := bne_iff_ne.mpr c90
                                  obtain rfl := Option.some.inj H
                                  obtain ⟨wa, wcap, hwa0, hgs⟩ := GM.out
                                  have hg0 : wc.cell? ⟨0, 0, none⟩ = some (.slice (some wa) 28 wcap) := Mine.cell_below hwa0 HB.out
                                  have hgw := (show ∀ (i : Nat) (x : List UInt8), markList[i]? = some x → wc.cell? (wa.add i) = some (.string ⟨x.toArray⟩) from fun i x hx => Mine.cell_below (hgs i x hx) HB.out)
                                  clear hwa0 hgs
                                  go_wp2
                                  go_loopg [6, 21] 29 (fun kq v6 v21 w' => ∃ (x kd : Int), v6 = .int .i64 kd ∧ v21 = .int .i64 x ∧ Aside0 (wc = w') ∧ Aside0 (0 ≤ x ∧ x ≤ 28 ∧ (kq : Int) + x = 29) ∧ Aside0 (kd = if ((markList.take x.toNat).any fun y => y == (strOfNums y187).toList) = true then 4 else 0))
                                  case atStart => exact ⟨0, 0, rfl, rfl, ⟨rfl⟩, ⟨by decide, by decide, by decide⟩, ⟨rfl⟩⟩
                                  case round =>
                                    clear hg0
                                    obtain ⟨x, kd, rfl, rfl, hww, HM, HD⟩ := hrel
                                    obtain rfl := hww.out
                                    clear hww
                                    cases gk with
                                    | zero => have := HM.out; omega
                                    | succ k1 =>
                                      by_cases cx : x < 28
                                      · have p9 : 0 ≤ x := HM.out.1
                                        obtain ⟨m, hm⟩ : ∃ m, markList[x.toNat]? = some m := ⟨_, List.getElem?_eq_getElem (show x.toNat < 28 by omega)⟩
                                        obtain ⟨mb, hmb⟩ : ∃ b_ : ByteArray, (⟨m.toArray⟩ : ByteArray) = b_ := ⟨_, rfl⟩
                                        have hcx := hgw x.toNat m hm
                                        rw [hmb] at hcx
                                        have hlist : mb.toList = m := by rw [← hmb, ByteArray.toList_eq]
                                        have hw : wrap64 (x + 1) = x + 1 := by have := HM.out; unfold wrap64; omega
                                        have cx0 : decide (x < 28) = true := decide_eq_true cx
                                        have px := eq_true p9; have qx := eq_true cx; clear p9
                                        by_cases ce : m = (strOfNums y187).toList
                                        · have ce0 : (m == (strOfNums y187).toList) = true := beq_iff_eq.mpr ce
                                          have HCE := Aside0.mk ce; clear ce
                                          go_wp2
                                          all_goals
                                            go_roundg k1
                                            case measure => omega
                                            case rel =>
                                              refine ⟨x + 1, 4, rfl, by rw [hw], ⟨rfl⟩, ⟨by have hm_ := HM.out; omega⟩, ⟨?_⟩⟩
                                              rw [show (x + 1).toNat = x.toNat + 1 from by have hm_ := HM.out; omega, List.take_add_one, hm]
                                              simp [← HCE.out]
                                        · have ce0 : (m == (strOfNums y187).toList) = false := beq_eq_false_iff_ne.mpr ce
                                          have HCE := Aside0.mk ce; clear ce
                                          go_wp2
                                          all_goals
                                            go_roundg k1
                                            case measure => omega
                                            case rel =>
                                              refine ⟨x + 1, kd, rfl, by rw [hw], ⟨rfl⟩, ⟨by have hm_ := HM.out; omega⟩, ⟨?_⟩⟩
                                              rw [show (x + 1).toNat = x.toNat + 1 from by have hm_ := HM.out; omega, List.take_add_one, hm, HD.out]
                                              simp [ce0]
                                      · have cx0 : decide (x < 28) = false := decide_eq_false cx
                                        obtain rfl : x = 28 := by have := HM.out; omega
                                        have hkd := HD.out; clear HD
                                        rw [show ((markList.take (28 : Int).toNat).any fun y => y == (strOfNums y187).toList) = false from Option.some.inj A64.out] at hkd
                                        obtain rfl : kd = 0 := by rw [hkd]; rfl
                                        clear hkd
                                        have hcz93_0 : wc.cell? ⟨gb196, 0, none⟩ = some (.int .i64 t193) := (blk_cell BK196.out 0).trans rfl
                                        have hcz93_1 : wc.cell? ⟨gb196, 1, none⟩ = some (.int .i64 t194) := (blk_cell BK196.out 1).trans rfl
                                        have hcz93_2 : wc.cell? ⟨gb196, 2, none⟩ = some (.int .i64 t195) := (blk_cell BK196.out 2).trans rfl
                                        have hfz93_0 := blk_frozen BK196.out 0
                                        have hfz93_1 := blk_frozen BK196.out 1
                                        have hfz93_2 := blk_frozen BK196.out 2
                                        obtain ⟨Ao94, co94, eo94⟩ := Kd.R_slice HO_4.out
                                        subst eo94
                                        have p204 : 0 ≤ (0 : Int) := (by omega)
                                        have q204 : 0 < (t190.length : Int) := of_decide_eq_true (by first | (with_reducible assumption) | assumption)
                                        obtain ⟨ad204, e204, hx204_0, hx204_1, hx204_2, hx204_3, hx204_4⟩ := at_T34 (Kd.R_reads' HO_4.out).2.2 0 p204 q204
                                        cases e204
                                        have qi204 : (0 < t190.length) = True := eq_true (by omega)
                                        (try rw [show ((0 : Int)).toNat = 0 from rfl] at hx204_0)
                                        (try rw [show 0 * 5 = 0 from rfl] at hx204_0)
                                        (try rw [Addr.add_zero'] at hx204_0)
                                        (try rw [show ((0 : Int)).toNat = 0 from rfl] at hx204_1)
                                        (try rw [show 0 * 5 = 0 from rfl] at hx204_1)
                                        (try rw [Addr.add_zero'] at hx204_1)
                                        (try rw [show ((0 : Int)).toNat = 0 from rfl] at hx204_2)
                                        (try rw [show 0 * 5 = 0 from rfl] at hx204_2)
                                        (try rw [Addr.add_zero'] at hx204_2)
                                        (try rw [show ((0 : Int)).toNat = 0 from rfl] at hx204_3)
                                        (try rw [show 0 * 5 = 0 from rfl] at hx204_3)
                                        (try rw [Addr.add_zero'] at hx204_3)
                                        (try rw [show ((0 : Int)).toNat = 0 from rfl] at hx204_4)
                                        (try rw [show 0 * 5 = 0 from rfl] at hx204_4)
                                        (try rw [Addr.add_zero'] at hx204_4)
                                        replace p204 := eq_true p204
                                        replace q204 := eq_true q204
                                        go_wp2
                                        all_goals
                                          go_ret
                                          exact ⟨by first | rfl | (simp [errW_none, errW_some] <;> rfl) | (simp [*, errW_none, errW_some] <;> rfl) | (simp_all; done), by repeat (first | (with_reducible first | exact HB.out | apply below_alloc | apply pw_below_drewN | apply below_drew1 | refine below_set ?_ GE196.out) | exact HB.out)⟩
                              · rw [if_neg c89] at H
                                exact absurd H (by simp)
                            · rw [if_neg c88] at H
                              have c88b0 : ((t190.length : Int) == 2) = false := beq_eq_false_iff_ne.mpr c88
                              have c88b1 : ((t190.length : Int) != 2) = true := bne_iff_ne.mpr c88
                              obtain rfl := Option.some.inj H
                              obtain ⟨wa, wcap, hwa0, hgs⟩ := GM.out
                              have hg0 : wc.cell? ⟨0, 0, none⟩ = some (.slice (some wa) 28 wcap) := Mine.cell_below hwa0 HB.out
                              have hgw := (show ∀ (i : Nat) (x : List UInt8), markList[i]? = some x → wc.cell? (wa.add i) = some (.string ⟨x.toArray⟩) from fun i x hx => Mine.cell_below (hgs i x hx) HB.out)
                              clear hwa0 hgs
                              go_wp2
                              go_loopg [6, 21] 29 (fun kq v6 v21 w' => ∃ (x kd : Int), v6 = .int .i64 kd ∧ v21 = .int .i64 x ∧ Aside0 (wc = w') ∧ Aside0 (0 ≤ x ∧ x ≤ 28 ∧ (kq : Int) + x = 29) ∧ Aside0 (kd = if ((markList.take x.toNat).any fun y => y == (strOfNums y187).toList) = true then 4 else 0))
                              case atStart => exact ⟨0, 0, rfl, rfl, ⟨rfl⟩, ⟨by decide, by decide, by decide⟩, ⟨rfl⟩⟩
                              case round =>
                                clear hg0
                                obtain ⟨x, kd, rfl, rfl, hww, HM, HD⟩ := hrel
                                obtain rfl := hww.out
                                clear hww
                                cases gk with
                                | zero => have := HM.out; omega
                                | succ k1 =>
                                  by_cases cx : x < 28
                                  · have p9 : 0 ≤ x := HM.out.1
                                    obtain ⟨m, hm⟩ : ∃ m, markList[x.toNat]? = some m := ⟨_, List.getElem?_eq_getElem (show x.toNat < 28 by omega)⟩
                                    obtain ⟨mb, hmb⟩ : ∃ b_ : ByteArray, (⟨m.toArray⟩ : ByteArray) = b_ := ⟨_, rfl⟩
                                    have hcx := hgw x.toNat m hm
                                    rw [hmb] at hcx
                                    have hlist : mb.toList = m := by rw [← hmb, ByteArray.toList_eq]
                                    have hw : wrap64 (x + 1) = x + 1 := by have := HM.out; unfold wrap64; omega
                                    have cx0 : decide (x < 28) = true := decide_eq_true cx
                                    have px := eq_true p9; have qx := eq_true cx; clear p9
                                    by_cases ce : m = (strOfNums y187).toList
                                    · have ce0 : (m == (strOfNums y187).toList) = true := beq_iff_eq.mpr ce
                                      have HCE := Aside0.mk ce; clear ce
                                      go_wp2
                                      all_goals
                                        go_roundg k1
                                        case measure => omega
                                        case rel =>
                                          refine ⟨x + 1, 4, rfl, by rw [hw], ⟨rfl⟩, ⟨by have hm_ := HM.out; omega⟩, ⟨?_⟩⟩
                                          rw [show (x + 1).toNat = x.toNat + 1 from by have hm_ := HM.out; omega, List.take_add_one, hm]
                                          simp [← HCE.out]
                                    · have ce0 : (m == (strOfNums y187).toList) = false := beq_eq_false_iff_ne.mpr ce
                                      have HCE := Aside0.mk ce; clear ce
                                      go_wp2
                                      all_goals
                                        go_roundg k1
                                        case measure => omega
                                        case rel =>
                                          refine ⟨x + 1, kd, rfl, by rw [hw], ⟨rfl⟩, ⟨by have hm_ := HM.out; omega⟩, ⟨?_⟩⟩
                                          rw [show (x + 1).toNat = x.toNat + 1 from by have hm_ := HM.out; omega, List.take_add_one, hm, HD.out]
                                          simp [ce0]
                                  · have cx0 : decide (x < 28) = false := decide_eq_false cx
                                    obtain rfl : x = 28 := by have := HM.out; omega
                                    have hkd := HD.out; clear HD
                                    rw [show ((markList.take (28 : Int).toNat).any fun y => y == (strOfNums y187).toList) = false from Option.some.inj A64.out] at hkd
                                    obtain rfl : kd = 0 := by rw [hkd]; rfl
                                    clear hkd
                                    have hcz95_0 : wc.cell? ⟨gb196, 0, none⟩ = some (.int .i64 t193) := (blk_cell BK196.out 0).trans rfl
                                    have hcz95_1 : wc.cell? ⟨gb196, 1, none⟩ = some (.int .i64 t194) := (blk_cell BK196.out 1).trans rfl
                                    have hcz95_2 : wc.cell? ⟨gb196, 2, none⟩ = some (.int .i64 t195) := (blk_cell BK196.out 2).trans rfl
                                    have hfz95_0 := blk_frozen BK196.out 0
                                    have hfz95_1 := blk_frozen BK196.out 1
                                    have hfz95_2 := blk_frozen BK196.out 2
                                    obtain ⟨Ao96, co96, eo96⟩ := Kd.R_slice HO_4.out
                                    subst eo96
                                    go_wp2
                                    all_goals
                                      go_ret
                                      exact ⟨by first | rfl | (simp [errW_none, errW_some] <;> rfl) | (simp [*, errW_none, errW_some] <;> rfl) | (simp_all; done), by repeat (first | (with_reducible first | exact HB.out | apply below_alloc | apply pw_below_drewN | apply below_drew1 | refine below_set ?_ GE196.out) | exact HB.out)⟩
                          · rw [if_neg c87] at H
                            have c87b0 : (t193 == 0 && ((t194 == 0 && (t195 == 0)))) = false := by simpa using c87
                            (try (have c87b1 : decide (t193 = 0 && ((t194 == 0 && (t195 == 0)))) = false := by simpa using c87))
                            (try (have c87b2 : (t193 == 0 && ((t194 == 0 && (t195 == 0)))) = false := by simpa using c87))
                            (try (have c87b3 : ¬ (t193 = 0 && ((t194 == 0 && (t195 == 0)))) := by simpa using c87))
                            clear c87
                            obtain rfl := Option.some.inj H
                            obtain ⟨wa, wcap, hwa0, hgs⟩ := GM.out
                            have hg0 : wc.cell? ⟨0, 0, none⟩ = some (.slice (some wa) 28 wcap) := Mine.cell_below hwa0 HB.out
                            have hgw := (show ∀ (i : Nat) (x : List UInt8), markList[i]? = some x → wc.cell? (wa.add i) = some (.string ⟨x.toArray⟩) from fun i x hx => Mine.cell_below (hgs i x hx) HB.out)
                            clear hwa0 hgs
                            go_wp2
                            go_loopg [6, 21] 29 (fun kq v6 v21 w' => ∃ (x kd : Int), v6 = .int .i64 kd ∧ v21 = .int .i64 x ∧ Aside0 (wc = w') ∧ Aside0 (0 ≤ x ∧ x ≤ 28 ∧ (kq : Int) + x = 29) ∧ Aside0 (kd = if ((markList.take x.toNat).any fun y => y == (strOfNums y187).toList) = true then 4 else 0))
                            case atStart => exact ⟨0, 0, rfl, rfl, ⟨rfl⟩, ⟨by decide, by decide, by decide⟩, ⟨rfl⟩⟩
                            case round =>
                              clear hg0
                              obtain ⟨x, kd, rfl, rfl, hww, HM, HD⟩ := hrel
                              obtain rfl := hww.out
                              clear hww
                              cases gk with
                              | zero => have := HM.out; omega
                              | succ k1 =>
                                by_cases cx : x < 28
                                · have p9 : 0 ≤ x := HM.out.1
                                  obtain ⟨m, hm⟩ : ∃ m, markList[x.toNat]? = some m := ⟨_, List.getElem?_eq_getElem (show x.toNat < 28 by omega)⟩
                                  obtain ⟨mb, hmb⟩ : ∃ b_ : ByteArray, (⟨m.toArray⟩ : ByteArray) = b_ := ⟨_, rfl⟩
                                  have hcx := hgw x.toNat m hm
                                  rw [hmb] at hcx
                                  have hlist : mb.toList = m := by rw [← hmb, ByteArray.toList_eq]
                                  have hw : wrap64 (x + 1) = x + 1 := by have := HM.out; unfold wrap64; omega
                                  have cx0 : decide (x < 28) = true := decide_eq_true cx
                                  have px := eq_true p9; have qx := eq_true cx; clear p9
                                  by_cases ce : m = (strOfNums y187).toList
                                  · have ce0 : (m == (strOfNums y187).toList) = true := beq_iff_eq.mpr ce
                                    have HCE := Aside0.mk ce; clear ce
                                    go_wp2
                                    all_goals
                                      go_roundg k1
                                      case measure => omega
                                      case rel =>
                                        refine ⟨x + 1, 4, rfl, by rw [hw], ⟨rfl⟩, ⟨by have hm_ := HM.out; omega⟩, ⟨?_⟩⟩
                                        rw [show (x + 1).toNat = x.toNat + 1 from by have hm_ := HM.out; omega, List.take_add_one, hm]
                                        simp [← HCE.out]
                                  · have ce0 : (m == (strOfNums y187).toList) = false := beq_eq_false_iff_ne.mpr ce
                                    have HCE := Aside0.mk ce; clear ce
                                    go_wp2
                                    all_goals
                                      go_roundg k1
                                      case measure => omega
                                      case rel =>
                                        refine ⟨x + 1, kd, rfl, by rw [hw], ⟨rfl⟩, ⟨by have hm_ := HM.out; omega⟩, ⟨?_⟩⟩
                                        rw [show (x + 1).toNat = x.toNat + 1 from by have hm_ := HM.out; omega, List.take_add_one, hm, HD.out]
                                        simp [ce0]
                                · have cx0 : decide (x < 28) = false := decide_eq_false cx
                                  obtain rfl : x = 28 := by have := HM.out; omega
                                  have hkd := HD.out; clear HD
                                  rw [show ((markList.take (28 : Int).toNat).any fun y => y == (strOfNums y187).toList) = false from Option.some.inj A64.out] at hkd
                                  obtain rfl : kd = 0 := by rw [hkd]; rfl
                                  clear hkd
                                  have hcz97_0 : wc.cell? ⟨gb196, 0, none⟩ = some (.int .i64 t193) := (blk_cell BK196.out 0).trans rfl
                                  have hcz97_1 : wc.cell? ⟨gb196, 1, none⟩ = some (.int .i64 t194) := (blk_cell BK196.out 1).trans rfl
                                  have hcz97_2 : wc.cell? ⟨gb196, 2, none⟩ = some (.int .i64 t195) := (blk_cell BK196.out 2).trans rfl
                                  have hfz97_0 := blk_frozen BK196.out 0
                                  have hfz97_1 := blk_frozen BK196.out 1
                                  have hfz97_2 := blk_frozen BK196.out 2
                                  go_wp2
                                  all_goals
                                    go_ret
                                    exact ⟨by first | rfl | (simp [errW_none, errW_some] <;> rfl) | (simp [*, errW_none, errW_some] <;> rfl) | (simp_all; done), by repeat (first | (with_reducible first | exact HB.out | apply below_alloc | apply pw_below_drewN | apply below_drew1 | refine below_set ?_ GE196.out) | exact HB.out)⟩
  · replace c3 := Bool.eq_false_iff.mpr c3
    subst c3
    have H1 : (some false) = some r := by rw [if_neg (show ¬ (false = true) by decide)] at H; exact H
    clear H
    have H := H1
    clear H1
    obtain rfl := Option.some.inj H
    go_enter Tryd.func4, Tryd.ntmps4
    go_wp2_with (first | ((with_reducible refine gate_callee (f := 9) rfl ?_); refine goesL_ (some 9) rfl rfl Tryd.func9 (by kernel_rfl) rfl #[] rfl (by (try simp only [List.map_toArray, List.map_cons, List.map_nil]); first | done | rfl | (simp only [List.length_drop, List.length_take]; rfl)) ?_; (with_reducible refine (palingslaw02_head.calls k  false _ ?sideG A2.out).mono ?_); (case sideG => exact GL.out.below (by repeat (first | (with_reducible first | exact HB.out | apply below_alloc | apply pw_below_drewN | apply below_drew1) | exact HB.out))); rintro e w98 ⟨rfl, hb⟩; refine ⟨_, rfl, ?_⟩; have n0_ := Aside0.mk (below_step (by repeat (first | (with_reducible first | exact HB.out | apply below_alloc | apply pw_below_drewN | apply below_drew1) | exact HB.out)) hb); clear HB; have HB := n0_; clear n0_; (try clear hb); (try clear hb2); (try clear hk); (try clear hi)))
    all_goals
      go_ret
      exact ⟨by first | rfl | (simp [errW_none, errW_some] <;> rfl) | (simp [*, errW_none, errW_some] <;> rfl) | (simp_all; done), by repeat (first | (with_reducible first | exact HB.out | apply below_alloc | apply pw_below_drewN | apply below_drew1) | exact HB.out)⟩


end Go.Proofs.YtfljigegjhnidaaDoor.B
