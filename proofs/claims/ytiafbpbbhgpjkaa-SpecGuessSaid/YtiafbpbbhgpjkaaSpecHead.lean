/- The document's example of layer 20. -/
import Derived.Test.YtiafbpbbhgpjkaaSpecRun
import Derived.Test.YtiafbpbbhgpjkaaMachFew
namespace Go.Proofs.Ytiafbpbbhgpjkaa.B
open Go.RowKit Go.Proofs.Ytiafbpbbhgpjkaa.Mine Go.Proofs.Ytiafbpbbhgpjkaa.Sep Go.Proofs.YtiafbpbbhgpjkaaW.PrintWords Go.Proofs.YtiafbpbbhgpjkaaW.PrintLast Go.Proofs.YtiafbpbbhgpjkaaW.PrintMore
set_option linter.unusedVariables false
set_option linter.unusedSimpArgs false
def headC : List S48 := [⟨1, 1, 0, 0, 0, 5⟩, ⟨11, 0, 1, 0, 0, 0⟩]
def headD : List (Int × Int) := [(0, 0), (0, 0), (0, 0)]
theorem head_right : image_Image_Right.f 20 headC [] 0 0 = some true := by kernel_rfl
theorem reps_ins {w : World} {base : Nat} {okp : Nat → Prop} (l : List S48) : Reps (k48.M w base okp) 6 l (l.flatMap fun x => [.int .i64 x.f0, .int .i64 x.f1, .int .i64 x.f2, .int .i64 x.f3, .int .i64 x.f4, .int .i64 x.f5]) := by
  induction l with
  | nil => exact Reps.none _ _
  | cons x l ih => exact Kd.reps_append (ps := [x]) (cs := [.int .i64 x.f0, .int .i64 x.f1, .int .i64 x.f2, .int .i64 x.f3, .int .i64 x.f4, .int .i64 x.f5]) ((Reps.none _ _).snoc (k48_mkM w base okp x) rfl) ih
theorem reps_deeds {w : World} {base : Nat} {okp : Nat → Prop} (l : List (Int × Int)) : Reps (kDeed.M w base okp) 2 l (l.flatMap fun x => [.int .i64 x.1, .int .i64 x.2]) := by
  induction l with
  | nil => exact Reps.none _ _
  | cons x l ih => exact Kd.reps_append (ps := [x]) (cs := [.int .i64 x.1, .int .i64 x.2]) ((Reps.none _ _).snoc (kDeed_mkM w base okp x) rfl) ih
theorem nil_C {α : Type} (d : Kd α) (w : World) : d.C w none ([] : List α).length [] := ⟨rfl, by simp, fun h => absurd h (Nat.lt_irrefl 0)⟩
theorem st_cell {W0 w : World} {L : List Chunk} {g : Nat} {t : TypeId} {s : St} (HS : Sat W0 w L) (i : Nat) (hi : L[i]? = some (blk g t (stL s).toArray)) (j : Nat) : w.cell? ⟨g, j, none⟩ = (stL s)[j]? := (HS.cell i hi j).trans (by simp)
theorem fine_of {C : List S48} {A : List S72} {st me : Int} {ins : List (List Int)} (hr : ∃ k, image_Image_Right.f k C A st me = some true) : Fine C A st me ins := by
  have h := right_true hr.choose_spec
  exact ⟨hr, h.liesM, by have := h.a1; omega, by have := h.s0; have := h.s1; omega, h.m1, by have := h.c2; omega, h.fits⟩
def headR : SM × List S60 := runM headC (sitesF headC 0) 3 (newX 0 0 [] []) headD
theorem headR1 : headR.1.s.ended = true := by kernel_rfl
theorem headR2 : headR.1.s.val = 5 := by kernel_rfl
theorem headR3 : headR.2.length = 3 := by kernel_rfl
theorem headR4 : headR.1.saved.isSome = false := by kernel_rfl
theorem headR5 : headR.1.n ≤ 1000000 := by have : headR.1.n = 0 := by kernel_rfl
                                           omega

set_option maxRecDepth 100000 in
set_option maxHeartbeats 2000000 in
theorem head_calls {W0 w : World} {L : List Chunk} (HS : Sat W0 w L) : Calls Try.prog 9 #[] w fun e w' => e = .returned (.bool true) ∧ Sat W0 w' L := by
  go_enter Try.func9, Try.ntmps9
  go_upto_region 2 with (first | ((with_reducible refine gate_dst (N := 7) rfl ?_); go_must (refine ev_lit k48 (e := 48) HS rfl (N := 7) rfl (xs := headC) (inner := [.int .i64 1, .int .i64 1, .int .i64 0, .int .i64 0, .int .i64 0, .int .i64 5, .int .i64 11, .int .i64 0, .int .i64 1, .int .i64 0, .int .i64 0, .int .i64 0]) ?hrun (reps_ins headC) (by first | decide | simp) ?_); (case hrun => first | (go_simp; done) | (go_simp; rfl)); clear HS; intro gl w HS) | ((with_reducible refine gate_dst (N := 1) rfl ?_); go_must (refine ev_box HS rfl (N := 1) rfl (cs := #[.slice none 0 0, .slice none 0 0, .int .i64 0, .int .i64 0]) (t := 25) ?hrun ?_); (case hrun => first | (go_simp; done) | (go_simp; rfl)); clear HS; intro gb w HS) | ((with_reducible refine gate_store (t := 25) (p := 1) rfl ?_); go_must (refine ev_store HS 0 rfl rfl 25 (.tmp 1) (.tmp 8) rfl rfl rfl [.slice (some ⟨gl, 0, none⟩) 2 2, .slice none 0 0, .int .i64 0, .int .i64 0] ?hx (by kernel_rfl) (by rfl) ?h1 ?_); (case hx => first | rfl | (go_simp; done)); (case h1 => simp [Value.oneCell']); clear HS; intro w HS))
  obtain ⟨r, hr⟩ : ∃ r, r = headR := ⟨_, rfl⟩
  have r1 := headR1
  have r2 := headR2
  have r3 := headR3
  have r4 := headR4
  have r5 := headR5
  rw [← hr] at r1 r2 r3 r4 r5
  have HRR := Aside0.mk hr
  have HF := Aside0.mk (And.intro r1 (And.intro r2 (And.intro r3 (And.intro r4 r5))))
  clear hr r1 r2 r3 r4 r5
  go_upto_region 3 with (first | ((with_reducible refine gate_load (ty := 25) (p := 1) rfl ?_); go_must (refine ev_load HS 0 rfl rfl 25 (.tmp 1) rfl (N := 10) rfl rfl _ Try.underlying25 rfl (by kernel_rfl) ?_)) | (((with_reducible refine gate_dst (N := 14) rfl ?_); go_must (refine ev_lit kDeed (e := 44) HS rfl (N := 14) rfl (xs := headD) (inner := [.int .i64 0, .int .i64 0, .int .i64 0, .int .i64 0, .int .i64 0, .int .i64 0]) ?hrun (reps_deeds headD) (by first | decide | simp) ?_); (case hrun => first | (go_simp; done) | (go_simp; rfl)); clear HS; intro gd w HS); have HRun := Aside0.mk (show Calls Try.prog 18 #[.agg #[.slice (some ⟨gl, 0, none⟩) 2 2, .slice none 0 0, .int .i64 0, .int .i64 0], .slice none 0 0, .int .i64 3, .slice (some ⟨gd, 0, none⟩) 3 3] w (fun e w' => ∃ g Am cm At ct v, e = .returned (.tuple #[.pointer (some ⟨g, 0, none⟩), v, .int .i64 0]) ∧ Sat W0 w' (mch g Am 0 cm (.slice (some ⟨gl, 0, none⟩) 2 2) (.slice At (sitesF headC 0).length ct) 3 r.1 :: row k60 60 v r.2 :: row IW 3 (.slice At (sitesF headC 0).length ct) (sitesF headC 0) :: row kDeed 44 (.slice (some ⟨gd, 0, none⟩) 3 3) headD :: blk gb 25 #[.slice (some ⟨gl, 0, none⟩) 2 2, .slice none 0 0, .int .i64 0, .int .i64 0] :: row k48 48 (.slice (some ⟨gl, 0, none⟩) 2 2) headC :: L)) from by
      rw [HRR.out]
      exact srun_calls (Ac := some ⟨gl, 0, none⟩) (cc := 2) (code := headC) (Aa := none) (ca := 0) (arrs := []) (st := 0) (me := 0) (Ai := none) (ci := 0) (ins := []) (win := 3) (As := some ⟨gd, 0, none⟩) (cs := 3) (script := headD) ⟨fun w h => h.C 2 rfl, by decide, fun w h => nil_C _ _, by decide, fun w h => nil_C _ _⟩ (fine_of ⟨20, head_right⟩) (by decide) (by decide) (fun w h => h.C 0 rfl) (by decide) HS)) | (go_at_call 18; refine HRun.out.mono ?_; rintro e w_ ⟨g, Am, cm, At, ct, v, rfl, HS_⟩; clear HS HRun; have HS := HS_; clear HS_; obtain ⟨Av, cv, rfl⟩ := HS.slice 1 rfl))
  have HM := mchC HS 0 rfl
  have c65 := (HM.2.1 65 (by decide)).trans (stL_ended HM.1)
  have c66 := (HM.2.1 66 (by decide)).trans (stL_val HM.1)
  rw [HF.out.1] at c65
  rw [HF.out.2.1] at c66
  clear HM
  have r3 := HF.out.2.2.1
  rw [r3] at HS ⊢
  have HG := Aside0.mk (guesses_calls HF.out.2.2.2.2 HS)
  rw [HF.out.2.2.2.1] at HG
  go_wp2_with ((try (refine gate_guard (by rfl) ?_; dsimp only)); go_at_call 17; refine HG.out.mono ?_; rintro e w_ ⟨rfl, HS_⟩; clear HS HG; have HS := HS_; clear HS_)
  go_ret
  exact ⟨rfl, HS.tail.tail.tail.tail.tail.tail⟩

end Go.Proofs.Ytiafbpbbhgpjkaa.B
