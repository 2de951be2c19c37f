/- The document's example of layer 3. -/
import Derived.Test.YtaammdmaldodaaaDoorAstText
namespace Go.Proofs.YtaammdmaldodaaaDoor.B
open Go.RowKit Go.Proofs.YtaammdmaldodaaaDoor.Mine Go.Proofs.YtaammdmaldodaaaDoor.Sep Go.Proofs.YtaammdmaldodaaaDoorW.PrintWords Go.Proofs.YtaammdmaldodaaaDoorW.PrintLast Go.Proofs.YtaammdmaldodaaaDoorW.PrintMore
set_option linter.unusedVariables false
set_option linter.unusedSimpArgs false
def headK : List S31 := [⟨1, ⟨0, 0⟩, 1, ⟨#[]⟩, 0, []⟩, ⟨3, ⟨0, 0⟩, 0, ⟨#[97]⟩, 0, []⟩]
def headE : S31 := ⟨6, ⟨0, 0⟩, 0, ⟨#[]⟩, 1, headK⟩
theorem one_text : Lib.itoa 1 = [49] := by rw [Lib.itoa, if_neg (by decide)]; exact Lib.decDigits_one (by decide)
theorem headE_text : txtE headE = [40, 49, 32, 43, 32, 97, 41] := by
  rw [show txtE headE = [40] ++ Lib.itoa 1 ++ [32] ++ signF 1 ++ [32] ++ [97] ++ [41] from by kernel_rfl, one_text]
  rfl
theorem headE_ok : okE headE := by unfold headE headK; simp only [okE, okL, i64]; decide
theorem reps_headK {w : World} {base : Nat} {okp : Nat → Prop} : Reps (k31.M w base okp) 7 headK [.int .i64 1, .int .i64 0, .int .i64 0, .int .i64 1, .string ⟨#[]⟩, .int .i64 0, .slice none 0 0, .int .i64 3, .int .i64 0, .int .i64 0, .int .i64 0, .string ⟨#[97]⟩, .int .i64 0, .slice none 0 0] :=
  ((Reps.none _ _).snoc (k31_mkM w base okp ⟨1, ⟨0, 0⟩, 1, ⟨#[]⟩, 0, []⟩ (Kd.R_nil _ _ _ _ _)) rfl).snoc (k31_mkM w base okp ⟨3, ⟨0, 0⟩, 0, ⟨#[97]⟩, 0, []⟩ (Kd.R_nil _ _ _ _ _)) rfl
set_option maxRecDepth 100000 in
set_option maxHeartbeats 2000000 in
theorem head_calls {W0 w : World} {L : List Chunk} (hG : ∀ w, Sat W0 w L → GL w) (HS : Sat W0 w L) : Calls Tryd.prog 7 #[] w fun e w' => e = .returned (.bool true) ∧ Sat W0 w' L := by
  have HT := Aside0.mk (fun (w : World) (A : Option Addr) (h : GL w) (hC : Kd.C k31 w A headK.length headK) => show Calls Tryd.prog 22 #[.agg #[.int .i64 6, .int .i64 0, .int .i64 0, .int .i64 0, .string ⟨#[]⟩, .int .i64 1, .slice A 2 2]] w (fun r w' => r = .returned (.string ⟨#[40, 49, 32, 43, 32, 97, 41]⟩) ∧ Below w.heap.size w w') from by
    have := text_calls headE w A 2 h headE_ok (by have : szE headE = 326 := by kernel_rfl
                                                  rw [this]; decide) hC (by decide)
    rw [headE_text] at this
    exact this)
  have HG := Aside0.mk hG
  clear hG
  go_enter Tryd.func7, Tryd.ntmps7
  go_wp2_with (first | ((with_reducible refine gate_dst (N := 3) rfl ?_); go_must (refine ev_lit k31 (e := 31) HS rfl (N := 3) rfl (xs := headK) (inner := [.int .i64 1, .int .i64 0, .int .i64 0, .int .i64 1, .string ⟨#[]⟩, .int .i64 0, .slice none 0 0, .int .i64 3, .int .i64 0, .int .i64 0, .int .i64 0, .string ⟨#[97]⟩, .int .i64 0, .slice none 0 0]) ?hrun reps_headK (by first | decide | simp) ?_); (case hrun => first | (go_simp; done) | (go_simp; rfl)); clear HS; intro gl w HS) | (go_at_call 22; refine (HT.out _ _ (HG.out _ HS.tail) (HS.C 0 rfl)).mono ?_; rintro e w_ ⟨rfl, hb⟩; replace HS := HS.below hb; clear hb))
  go_ret
  exact ⟨rfl, HS.tail⟩
end Go.Proofs.YtaammdmaldodaaaDoor.B
