/- name: a name of few. -/
import Derived.Test.YtenkganofobioaaDoorPaHead
import Derived.Test.YtenkganofobioaaDoorPaArgsP
import Derived.Lib.SlBytesRow
namespace Go.Proofs.YtenkganofobioaaDoor.B
open Go.RowKit Go.Proofs.YtenkganofobioaaDoor.Mine Go.Proofs.YtenkganofobioaaDoor.Sep Go.Proofs.YtenkganofobioaaDoorW.PrintWords Go.Proofs.YtenkganofobioaaDoorW.PrintLast Go.Proofs.YtenkganofobioaaDoorW.PrintMore
set_option linter.unusedVariables false
set_option linter.unusedSimpArgs false
attribute [local go_sem] Instr.field asAgg
attribute [local go_sem high] eqA34 eqA32
theorem and7 (n : Int) : Go.bits .and .i64 n 7 = n % 8 := by
  have h1 : (BitVec.ofInt 64 7).toNat = 2 ^ 3 - 1 := by decide
  have key : (BitVec.ofInt 64 n &&& BitVec.ofInt 64 7).toNat = (n % ((2 ^ 64 : Nat) : Int)).toNat % 2 ^ 3 := by
    rw [BitVec.toNat_and, BitVec.toNat_ofInt, h1, Nat.and_two_pow_sub_one_eq_mod]
  show IntKind.i64.wrap ((BitVec.ofInt 64 n &&& BitVec.ofInt 64 7).toNat : Nat) = n % 8
  rw [key, IntKind.wrap_i64]
  omega
theorem and31 (n : Int) : Go.bits .and .i64 n 31 = n % 32 := by
  have h1 : (BitVec.ofInt 64 31).toNat = 2 ^ 5 - 1 := by decide
  have key : (BitVec.ofInt 64 n &&& BitVec.ofInt 64 31).toNat = (n % ((2 ^ 64 : Nat) : Int)).toNat % 2 ^ 5 := by
    rw [BitVec.toNat_and, BitVec.toNat_ofInt, h1, Nat.and_two_pow_sub_one_eq_mod]
  show IntKind.i64.wrap ((BitVec.ofInt 64 n &&& BitVec.ofInt 64 31).toNat : Nat) = n % 32
  rw [key, IntKind.wrap_i64]
  omega
set_option maxRecDepth 100000 in
set_option maxHeartbeats 8000000 in
theorem name_0 (z : Int) (hz : Go.bits .and .i64 z 7 = 0) (w : World) : Calls Tryd.prog 11 #[.int .i64 z] w fun e w' => e = .returned (.string (bs [110, 97])) ∧ Below w.heap.size w w' := by
  have HS := Sat.start w
  have HW := Aside0.mk (rfl : w = w)
  obtain ⟨w0, hw0⟩ : ∃ x, x = w := ⟨_, rfl⟩
  go_enter Tryd.func11, Tryd.ntmps11
  go_wp2_with ((with_reducible refine gate_dst (N := 7) rfl ?_); go_must (refine ev_litb HS rfl (N := 7) rfl (cs := #[.int .u8 97]) (e := 5) (n := 1) ?hrun ?_); (case hrun => first | (go_simp; done) | (go_simp; rfl)); clear HS; intro g7 w HS; have hcv : (convert 79 9 (.slice (some ⟨g7, 0, none⟩) 1 1)).run Tryd.prog w = .ok (.string ⟨#[97]⟩) w := Lib.run_convert_whole (P := Tryd.prog) w 79 5 9 Tryd.underlying79 Tryd.underlying5 Tryd.underlying9 g7 0 ⟨#[97]⟩ (fun i hi => by match i, hi with | 0, _ => exact HS.cell 0 rfl 0) 1)
  go_ret
  exact ⟨rfl, HS.old 1 rfl⟩
set_option maxRecDepth 100000 in
set_option maxHeartbeats 8000000 in
theorem name_1 (z : Int) (hz : Go.bits .and .i64 z 7 = 1) (w : World) : Calls Tryd.prog 11 #[.int .i64 z] w fun e w' => e = .returned (.string (bs [110, 98])) ∧ Below w.heap.size w w' := by
  have HS := Sat.start w
  have HW := Aside0.mk (rfl : w = w)
  obtain ⟨w0, hw0⟩ : ∃ x, x = w := ⟨_, rfl⟩
  go_enter Tryd.func11, Tryd.ntmps11
  go_wp2_with ((with_reducible refine gate_dst (N := 7) rfl ?_); go_must (refine ev_litb HS rfl (N := 7) rfl (cs := #[.int .u8 98]) (e := 5) (n := 1) ?hrun ?_); (case hrun => first | (go_simp; done) | (go_simp; rfl)); clear HS; intro g7 w HS; have hcv : (convert 79 9 (.slice (some ⟨g7, 0, none⟩) 1 1)).run Tryd.prog w = .ok (.string ⟨#[98]⟩) w := Lib.run_convert_whole (P := Tryd.prog) w 79 5 9 Tryd.underlying79 Tryd.underlying5 Tryd.underlying9 g7 0 ⟨#[98]⟩ (fun i hi => by match i, hi with | 0, _ => exact HS.cell 0 rfl 0) 1)
  go_ret
  exact ⟨rfl, HS.old 1 rfl⟩
set_option maxRecDepth 100000 in
set_option maxHeartbeats 8000000 in
theorem name_2 (z : Int) (hz : Go.bits .and .i64 z 7 = 2) (w : World) : Calls Tryd.prog 11 #[.int .i64 z] w fun e w' => e = .returned (.string (bs [110, 99])) ∧ Below w.heap.size w w' := by
  have HS := Sat.start w
  have HW := Aside0.mk (rfl : w = w)
  obtain ⟨w0, hw0⟩ : ∃ x, x = w := ⟨_, rfl⟩
  go_enter Tryd.func11, Tryd.ntmps11
  go_wp2_with ((with_reducible refine gate_dst (N := 7) rfl ?_); go_must (refine ev_litb HS rfl (N := 7) rfl (cs := #[.int .u8 99]) (e := 5) (n := 1) ?hrun ?_); (case hrun => first | (go_simp; done) | (go_simp; rfl)); clear HS; intro g7 w HS; have hcv : (convert 79 9 (.slice (some ⟨g7, 0, none⟩) 1 1)).run Tryd.prog w = .ok (.string ⟨#[99]⟩) w := Lib.run_convert_whole (P := Tryd.prog) w 79 5 9 Tryd.underlying79 Tryd.underlying5 Tryd.underlying9 g7 0 ⟨#[99]⟩ (fun i hi => by match i, hi with | 0, _ => exact HS.cell 0 rfl 0) 1)
  go_ret
  exact ⟨rfl, HS.old 1 rfl⟩
set_option maxRecDepth 100000 in
set_option maxHeartbeats 8000000 in
theorem name_3 (z : Int) (hz : Go.bits .and .i64 z 7 = 3) (w : World) : Calls Tryd.prog 11 #[.int .i64 z] w fun e w' => e = .returned (.string (bs [110, 100])) ∧ Below w.heap.size w w' := by
  have HS := Sat.start w
  have HW := Aside0.mk (rfl : w = w)
  obtain ⟨w0, hw0⟩ : ∃ x, x = w := ⟨_, rfl⟩
  go_enter Tryd.func11, Tryd.ntmps11
  go_wp2_with ((with_reducible refine gate_dst (N := 7) rfl ?_); go_must (refine ev_litb HS rfl (N := 7) rfl (cs := #[.int .u8 100]) (e := 5) (n := 1) ?hrun ?_); (case hrun => first | (go_simp; done) | (go_simp; rfl)); clear HS; intro g7 w HS; have hcv : (convert 79 9 (.slice (some ⟨g7, 0, none⟩) 1 1)).run Tryd.prog w = .ok (.string ⟨#[100]⟩) w := Lib.run_convert_whole (P := Tryd.prog) w 79 5 9 Tryd.underlying79 Tryd.underlying5 Tryd.underlying9 g7 0 ⟨#[100]⟩ (fun i hi => by match i, hi with | 0, _ => exact HS.cell 0 rfl 0) 1)
  go_ret
  exact ⟨rfl, HS.old 1 rfl⟩
set_option maxRecDepth 100000 in
set_option maxHeartbeats 8000000 in
theorem name_4 (z : Int) (hz : Go.bits .and .i64 z 7 = 4) (w : World) : Calls Tryd.prog 11 #[.int .i64 z] w fun e w' => e = .returned (.string (bs [110, 101])) ∧ Below w.heap.size w w' := by
  have HS := Sat.start w
  have HW := Aside0.mk (rfl : w = w)
  obtain ⟨w0, hw0⟩ : ∃ x, x = w := ⟨_, rfl⟩
  go_enter Tryd.func11, Tryd.ntmps11
  go_wp2_with ((with_reducible refine gate_dst (N := 7) rfl ?_); go_must (refine ev_litb HS rfl (N := 7) rfl (cs := #[.int .u8 101]) (e := 5) (n := 1) ?hrun ?_); (case hrun => first | (go_simp; done) | (go_simp; rfl)); clear HS; intro g7 w HS; have hcv : (convert 79 9 (.slice (some ⟨g7, 0, none⟩) 1 1)).run Tryd.prog w = .ok (.string ⟨#[101]⟩) w := Lib.run_convert_whole (P := Tryd.prog) w 79 5 9 Tryd.underlying79 Tryd.underlying5 Tryd.underlying9 g7 0 ⟨#[101]⟩ (fun i hi => by match i, hi with | 0, _ => exact HS.cell 0 rfl 0) 1)
  go_ret
  exact ⟨rfl, HS.old 1 rfl⟩
set_option maxRecDepth 100000 in
set_option maxHeartbeats 8000000 in
theorem name_5 (z : Int) (hz : Go.bits .and .i64 z 7 = 5) (w : World) : Calls Tryd.prog 11 #[.int .i64 z] w fun e w' => e = .returned (.string (bs [110, 102])) ∧ Below w.heap.size w w' := by
  have HS := Sat.start w
  have HW := Aside0.mk (rfl : w = w)
  obtain ⟨w0, hw0⟩ : ∃ x, x = w := ⟨_, rfl⟩
  go_enter Tryd.func11, Tryd.ntmps11
  go_wp2_with ((with_reducible refine gate_dst (N := 7) rfl ?_); go_must (refine ev_litb HS rfl (N := 7) rfl (cs := #[.int .u8 102]) (e := 5) (n := 1) ?hrun ?_); (case hrun => first | (go_simp; done) | (go_simp; rfl)); clear HS; intro g7 w HS; have hcv : (convert 79 9 (.slice (some ⟨g7, 0, none⟩) 1 1)).run Tryd.prog w = .ok (.string ⟨#[102]⟩) w := Lib.run_convert_whole (P := Tryd.prog) w 79 5 9 Tryd.underlying79 Tryd.underlying5 Tryd.underlying9 g7 0 ⟨#[102]⟩ (fun i hi => by match i, hi with | 0, _ => exact HS.cell 0 rfl 0) 1)
  go_ret
  exact ⟨rfl, HS.old 1 rfl⟩
set_option maxRecDepth 100000 in
set_option maxHeartbeats 8000000 in
theorem name_6 (z : Int) (hz : Go.bits .and .i64 z 7 = 6) (w : World) : Calls Tryd.prog 11 #[.int .i64 z] w fun e w' => e = .returned (.string (bs [110, 103])) ∧ Below w.heap.size w w' := by
  have HS := Sat.start w
  have HW := Aside0.mk (rfl : w = w)
  obtain ⟨w0, hw0⟩ : ∃ x, x = w := ⟨_, rfl⟩
  go_enter Tryd.func11, Tryd.ntmps11
  go_wp2_with ((with_reducible refine gate_dst (N := 7) rfl ?_); go_must (refine ev_litb HS rfl (N := 7) rfl (cs := #[.int .u8 103]) (e := 5) (n := 1) ?hrun ?_); (case hrun => first | (go_simp; done) | (go_simp; rfl)); clear HS; intro g7 w HS; have hcv : (convert 79 9 (.slice (some ⟨g7, 0, none⟩) 1 1)).run Tryd.prog w = .ok (.string ⟨#[103]⟩) w := Lib.run_convert_whole (P := Tryd.prog) w 79 5 9 Tryd.underlying79 Tryd.underlying5 Tryd.underlying9 g7 0 ⟨#[103]⟩ (fun i hi => by match i, hi with | 0, _ => exact HS.cell 0 rfl 0) 1)
  go_ret
  exact ⟨rfl, HS.old 1 rfl⟩
set_option maxRecDepth 100000 in
set_option maxHeartbeats 8000000 in
theorem name_7 (z : Int) (hz : Go.bits .and .i64 z 7 = 7) (w : World) : Calls Tryd.prog 11 #[.int .i64 z] w fun e w' => e = .returned (.string (bs [110, 104])) ∧ Below w.heap.size w w' := by
  have HS := Sat.start w
  have HW := Aside0.mk (rfl : w = w)
  obtain ⟨w0, hw0⟩ : ∃ x, x = w := ⟨_, rfl⟩
  go_enter Tryd.func11, Tryd.ntmps11
  go_wp2_with ((with_reducible refine gate_dst (N := 7) rfl ?_); go_must (refine ev_litb HS rfl (N := 7) rfl (cs := #[.int .u8 104]) (e := 5) (n := 1) ?hrun ?_); (case hrun => first | (go_simp; done) | (go_simp; rfl)); clear HS; intro g7 w HS; have hcv : (convert 79 9 (.slice (some ⟨g7, 0, none⟩) 1 1)).run Tryd.prog w = .ok (.string ⟨#[104]⟩) w := Lib.run_convert_whole (P := Tryd.prog) w 79 5 9 Tryd.underlying79 Tryd.underlying5 Tryd.underlying9 g7 0 ⟨#[104]⟩ (fun i hi => by match i, hi with | 0, _ => exact HS.cell 0 rfl 0) 1)
  go_ret
  exact ⟨rfl, HS.old 1 rfl⟩
theorem name_calls (i : Nat) (w : World) : Calls Tryd.prog 11 #[.int .i64 (i : Int)] w fun e w' => e = .returned (.string (bs (nmB i))) ∧ Below w.heap.size w w' := by
  have hz : Go.bits .and .i64 (i : Int) 7 = ((i % 8 : Nat) : Int) := by rw [and7]; omega
  have hj := Nat.mod_lt i (show 0 < 8 by decide)
  unfold nmB
  obtain ⟨j, hj2⟩ : ∃ j, j = i % 8 := ⟨_, rfl⟩
  rw [← hj2] at hz hj ⊢
  match j, hj with
  | 0, _ => exact name_0 _ hz w
  | 1, _ => exact name_1 _ hz w
  | 2, _ => exact name_2 _ hz w
  | 3, _ => exact name_3 _ hz w
  | 4, _ => exact name_4 _ hz w
  | 5, _ => exact name_5 _ hz w
  | 6, _ => exact name_6 _ hz w
  | 7, _ => exact name_7 _ hz w
end Go.Proofs.YtenkganofobioaaDoor.B
