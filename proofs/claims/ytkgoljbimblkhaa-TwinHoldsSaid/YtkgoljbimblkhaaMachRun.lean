/- A run of the machine: the contracts of Begin and of Run. -/
import Derived.Test.YtkgoljbimblkhaaMachRight
namespace Go.Proofs.Ytkgoljbimblkhaa.B
open Go.RowKit Go.Proofs.Ytkgoljbimblkhaa.Mine Go.Proofs.Ytkgoljbimblkhaa.Sep Go.Proofs.YtkgoljbimblkhaaW.PrintWords Go.Proofs.YtkgoljbimblkhaaW.PrintLast Go.Proofs.YtkgoljbimblkhaaW.PrintMore
set_option linter.unusedVariables false
set_option linter.unusedSimpArgs false

def z0 : St := ⟨List.replicate 64 0, 0, false, 0, 0, 0⟩
def beginS (st : Int) : St := { z0 with regs := z0.regs.set 63 st }
theorem begin_len (st : Int) : (beginS st).regs.length = 64 := rfl
theorem info32 : (Try.prog.info? 42).map (·.size) = some 69 := by kernel_rfl
theorem size32 {s : St} (h : s.regs.length = 64) : (Try.prog.info? 42).map (·.size) = some (stL s).toArray.size := by rw [info32, List.size_toArray, stL_length h]
theorem len32 {s : St} (h : s.regs.length = 64) : (Try.prog.info? 42).map (·.size) = some (stL s).length := by rw [info32, stL_length h]
theorem stL_one (s : St) : ∀ q ∈ stL s, q.oneCell' = true := by
  intro q hq
  unfold stL at hq
  rcases List.mem_append.1 hq with h | h
  · obtain ⟨x, _, rfl⟩ := List.mem_map.1 h; rfl
  · simp only [List.mem_cons, List.not_mem_nil, or_false] at h
    rcases h with rfl | rfl | rfl | rfl | rfl <;> rfl
section
variable {W0 w : World} {L : List Chunk}
set_option maxRecDepth 100000 in
set_option maxHeartbeats 1000000 in
theorem begin_calls {Ac : Option Addr} {nc cc : Nat} {Aa : Option Addr} {na ca : Nat} (st mem : Int) (HS : Sat W0 w L) :
    Calls Try.prog 17 #[.agg #[.slice Ac nc cc, .slice Aa na ca, .int .i64 st, .int .i64 mem]] w fun e w' => e = .returned (.agg (stL (beginS st)).toArray) ∧ Sat W0 w' L := by
  go_enter Try.func17, Try.ntmps17
  go_upto_region 1 with (first | ((with_reducible refine gate_dst (N := 1) rfl ?_); go_must (refine ev_box HS rfl (N := 1) rfl (cs := #[.slice Ac nc cc, .slice Aa na ca, .int .i64 st, .int .i64 mem]) (t := 25) ?hrun ?_); (case hrun => first | (go_simp; done) | (go_simp; rfl)); clear HS; intro gb w HS) | ((with_reducible refine gate_dst (N := 2) rfl ?_); go_must (refine ev_box HS rfl (N := 2) rfl (cs := (stL z0).toArray) (t := 42) ?hrun ?_); (case hrun => first | (go_simp; done) | (go_simp; rfl)); clear HS; intro g2 w HS))
  go_upto_region 2 with ((with_reducible refine gate_dst (N := 3) rfl ?_); go_must (refine ev_box HS rfl (N := 3) rfl (cs := (stL z0).toArray) (t := 42) ?hrun ?_); (case hrun => first | (go_simp; done) | (go_simp; rfl)); clear HS; intro g3 w HS)
  have c63 : w.cell? ⟨g3, 63, none⟩ = some (.int .i64 0) := (HS.cell 0 rfl 63).trans rfl
  have f3 := HS.frozen 0 rfl
  have cb := HS.cell 2 rfl
  go_upto_region 3 with (fail)
  have HS' := HS.store 0 rfl 63 (.int .i64 st)
  have e : (stL z0).toArray.setIfInBounds 63 (.int .i64 st) = (stL (beginS st)).toArray := rfl
  rw [e] at HS'
  clear HS c63 f3 cb e
  refine wp_sat HS' (fun w HS => ?_)
  clear HS'
  go_wp2_with (first | ((with_reducible refine gate_load (ty := 42) (p := 3) rfl ?_); go_must (refine ev_load HS 0 rfl rfl 42 (.tmp 3) rfl (N := 8) rfl rfl _ Try.underlying42 rfl (size32 (begin_len st)) ?_)) | ((with_reducible refine gate_store (t := 42) (p := 2) rfl ?_); go_must (refine ev_store HS 1 rfl rfl 42 (.tmp 2) (.tmp 8) rfl rfl rfl (stL (beginS st)) rfl (len32 (begin_len st)) rfl (stL_one _) ?_); clear HS; intro w HS))
  exact ret_row HS 1 rfl rfl rfl _ Try.underlying42 rfl (size32 (begin_len st)) rfl ⟨rfl, HS.tail.tail.tail⟩
end
end Go.Proofs.Ytkgoljbimblkhaa.B
