/- The document's example, and how images and inputs come in. -/
import Derived.Test.YtigimkcppocodaaMachRun2
namespace Go.Proofs.Ytigimkcppocodaa.B
open Go.RowKit Go.Proofs.Ytigimkcppocodaa.Mine Go.Proofs.Ytigimkcppocodaa.Sep Go.Proofs.YtigimkcppocodaaW.PrintWords Go.Proofs.YtigimkcppocodaaW.PrintLast Go.Proofs.YtigimkcppocodaaW.PrintMore
set_option linter.unusedVariables false
set_option linter.unusedSimpArgs false

def headC : List S58 := [⟨1, 1, 0, 0, 0, 5⟩, ⟨11, 0, 1, 0, 0, 0⟩]
theorem head_right : image_Image_Right.f 20 headC [] 0 0 = some true := by kernel_rfl
theorem reps_ins {w : World} {base : Nat} {okp : Nat → Prop} (l : List S58) : Reps (k58.M w base okp) 6 l (l.flatMap fun x => [.int .i64 x.f0, .int .i64 x.f1, .int .i64 x.f2, .int .i64 x.f3, .int .i64 x.f4, .int .i64 x.f5]) := by
  induction l with
  | nil => exact Reps.none _ _
  | cons x l ih => exact Kd.reps_append (ps := [x]) (cs := [.int .i64 x.f0, .int .i64 x.f1, .int .i64 x.f2, .int .i64 x.f3, .int .i64 x.f4, .int .i64 x.f5]) ((Reps.none _ _).snoc (k58_mkM w base okp x) rfl) ih
def headR : St × List Int × List S53 := runF headC 10 (beginS 0) (startF [] [] 0)
theorem headR1 : headR.1.ended = true := by kernel_rfl
theorem headR2 : headR.1.val = 5 := by kernel_rfl
theorem headR3 : headR.1.steps = 2 := by kernel_rfl
theorem headR4 : headR.1.trap = 0 := by kernel_rfl
theorem headR5 : headR.2.2.length = 3 := by kernel_rfl
theorem headR6 : headR.1.regs.length = 64 := by kernel_rfl
theorem nil_C {α : Type} (d : Kd α) (w : World) : d.C w none ([] : List α).length [] := ⟨rfl, by simp, fun h => absurd h (Nat.lt_irrefl 0)⟩
theorem st_cell {W0 w : World} {L : List Chunk} {g : Nat} {t : TypeId} {s : St} (HS : Sat W0 w L) (i : Nat) (hi : L[i]? = some (blk g t (stL s).toArray)) (j : Nat) : w.cell? ⟨g, j, none⟩ = (stL s)[j]? := (HS.cell i hi j).trans (by simp)
set_option maxRecDepth 100000 in
set_option maxHeartbeats 1000000 in
theorem head_calls {W0 w : World} {L : List Chunk} (HS : Sat W0 w L) : Calls Try.prog 9 #[] w fun e w' => e = .returned (.bool true) ∧ Sat W0 w' L := by
  obtain ⟨r, hr⟩ : ∃ r, r = headR := ⟨_, rfl⟩
  have r1 := headR1
  have r2 := headR2
  have r3 := headR3
  have r4 := headR4
  have r5 := headR5
  have r6 := headR6
  rw [← hr] at r1 r2 r3 r4 r5 r6
  have HR := Aside0.mk (show r = runF headC 10 (beginS 0) (startF [] [] 0) from hr)
  have R2 := Aside0.mk r2
  have R3 := Aside0.mk r3
  have R4 := Aside0.mk r4
  have R5 := Aside0.mk r5
  clear hr r2 r3 r4 r5
  go_enter Try.func9, Try.ntmps9
  go_upto_region 2 with (first | ((with_reducible refine gate_dst (N := 8) rfl ?_); go_must (refine ev_lit k58 (e := 58) HS rfl (N := 8) rfl (xs := headC) (inner := [.int .i64 1, .int .i64 1, .int .i64 0, .int .i64 0, .int .i64 0, .int .i64 5, .int .i64 11, .int .i64 0, .int .i64 1, .int .i64 0, .int .i64 0, .int .i64 0]) ?hrun (reps_ins headC) (by first | decide | simp) ?_); (case hrun => first | (go_simp; done) | (go_simp; rfl)); clear HS; intro gl w HS) | (go_at_call 17; refine (run_calls (Ac := some ⟨gl, 0, none⟩) (cc := 2) (code := headC) (Aa := none) (ca := 0) (arrs := []) (st := 0) (mem := 0) (Ai := none) (ci := 0) (ins := []) 10 (by decide) (by decide) (fun w h => h.C 0 rfl) (by decide) (fun w h => nil_C _ _) (by decide) (fun w h => nil_C _ _) head_right HS).mono ?_; rw [← HR.out]; rintro e w_ ⟨A, n, c, v, rfl, HS_⟩; clear HS; have HS := HS_; clear HS_; obtain ⟨Av, cv, rfl⟩ := HS.slice 0 rfl) | ((with_reducible refine gate_dst (N := 1) rfl ?_); go_must (refine ev_box HS rfl (N := 1) rfl (cs := (stL z0).toArray) (t := 32) ?hrun ?_); (case hrun => first | (go_simp; done) | (go_simp; rfl)); clear HS; intro g1 w HS) | ((with_reducible refine gate_store (t := 32) (p := 1) rfl ?_); go_must (refine ev_store HS 0 rfl rfl 32 (.tmp 1) (.tmp 11) rfl rfl rfl (stL r.1) rfl (len32 r6) (by simp [stL_length r6]; rfl) (stL_one _) ?_); clear HS; intro w HS))
  have c65 := (st_cell HS 0 rfl 65).trans (stL_ended r6)
  have c66 := (st_cell HS 0 rfl 66).trans (stL_val r6)
  have c67 := (st_cell HS 0 rfl 67).trans (stL_trap r6)
  have c68 := (st_cell HS 0 rfl 68).trans (stL_steps r6)
  rw [r1] at c65
  rw [R2.out] at c66
  rw [R4.out] at c67
  rw [R3.out] at c68
  have r5 := R5.out
  go_wp2
  go_ret
  exact ⟨rfl, HS.tail.tail.tail.tail⟩
end Go.Proofs.Ytigimkcppocodaa.B
