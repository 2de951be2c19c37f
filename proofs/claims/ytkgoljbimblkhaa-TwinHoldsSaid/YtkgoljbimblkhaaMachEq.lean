/- A machine's state is the same as itself. -/
import Derived.Test.YtkgoljbimblkhaaMachRun
import Derived.ChangeKeysEq
namespace Go.Proofs.Ytkgoljbimblkhaa.B
open Go.RowKit Go.Proofs.Ytkgoljbimblkhaa.Mine Go.Proofs.Ytkgoljbimblkhaa.Sep Go.Proofs.YtkgoljbimblkhaaW.PrintWords Go.Proofs.YtkgoljbimblkhaaW.PrintLast Go.Proofs.YtkgoljbimblkhaaW.PrintMore
set_option linter.unusedVariables false
set_option linter.unusedSimpArgs false

set_option maxRecDepth 100000 in
theorem eq_items (d : Nat) (xs : Array Value) (l : List Int) (hx : ∀ j, j < l.length → xs[j]? = some (.int .i64 (l.getD j 0))) (w : World) : ∀ is : List Nat, (∀ i ∈ is, i < l.length) → (Op.eqItems (d + 1) 2 (Try.prog.cellsOf 2) xs xs is).run Try.prog w = .ok true w
  | [], _ => by simp [Op.eqItems]
  | i :: is, h => by
    have h1 : (part 2 xs (i * Try.prog.cellsOf 2)).run Try.prog w = .ok (.int .i64 (l.getD i 0)) w := by
      refine run_part_plain w (by kernel_rfl) ?_
      rw [show Try.prog.cellsOf 2 = 1 by kernel_rfl, Nat.mul_one]
      exact hx i (h i List.mem_cons_self)
    have ih := eq_items d xs l hx w is (fun j hj => h j (List.mem_cons_of_mem _ hj))
    simp only [Op.eqItems, Sem.run_bind, h1, Result.andThen_ok, run_equalIn_int w d 2 .i64 .i64 _ _ Try.underlying2, beq_self_eq_true, Bool.not_true, Bool.false_eq_true, if_false, ih]
set_option maxRecDepth 100000 in
theorem eq_regs (d : Nat) (l : List Int) (hl : l.length = 64) (w : World) : (Op.equalIn (d + 2) 39 (.agg (l.map (Value.int .i64)).toArray) (.agg (l.map (Value.int .i64)).toArray)).run Try.prog w = .ok true w := by
  obtain ⟨i0, hi0⟩ := Option.isSome_iff_exists.1 (show (Try.prog.info? 2).isSome = true by kernel_rfl)
  rw [run_equalIn_array w (d + 1) _ _ Try.underlying39 hi0]
  refine eq_items d _ l (fun j hj => ?_) w _ (fun i hi => by rw [hl]; simpa using hi)
  simp [List.getD_eq_getElem?_getD, hj]
set_option maxRecDepth 100000 in
theorem eq_st (d : Nat) (s : St) (hs : s.regs.length = 64) (w : World) : (Op.equalIn (d + 3) 42 (.agg (stL s).toArray) (.agg (stL s).toArray)).run Try.prog w = .ok true w := by
  refine eqA_of Try.underlying42 (by kernel_rfl) ?_
  have hx : ∀ j v, (stL s)[j]? = some v → (stL s).toArray[j]? = some v := fun j v h => by rw [List.getElem?_toArray]; exact h
  have p0 : (part 39 (stL s).toArray 0).run Try.prog w = .ok (.agg (s.regs.map (Value.int .i64)).toArray) w := by
    have hA : (isAgg 39).run Try.prog w = .ok true w := by kernel_rfl
    have hS : (sizeOf 39).run Try.prog w = .ok 64 w := by kernel_rfl
    have hE : (stL s).toArray.extract 0 (0 + 64) = (s.regs.map (Value.int .i64)).toArray := by
      unfold stL
      rw [List.extract_toArray, List.extract_eq_take_drop]
      congr 1
      rw [List.drop_zero, List.take_append_of_le_length (by rw [List.length_map, hs]; omega), List.take_of_length_le (by rw [List.length_map, hs]; omega)]
    simp only [part, Sem.run_bind, hA, hS, Result.andThen_ok, if_true, Sem.run_pure, hE]
  have pp : ∀ (t j : Nat) (v : Value), Try.prog.plainKey t = true → (stL s)[j]? = some v → (part t (stL s).toArray j).run Try.prog w = .ok v w := fun t j v ht h => run_part_plain w ht (hx j v h)
  refine eqf_cons (s := true) (r := true) rfl p0 p0 (eq_regs d s.regs hs w) ?_
  refine eqf_cons (s := true) (r := true) rfl (pp 3 64 _ (by kernel_rfl) (stL_pc hs)) (pp 3 64 _ (by kernel_rfl) (stL_pc hs)) (by rw [run_equalIn_int w (d + 1) 3 .i64 .i64 _ _ Try.underlying3, beq_self_eq_true]) ?_
  refine eqf_cons (s := true) (r := true) rfl (pp 4 65 _ (by kernel_rfl) (stL_ended hs)) (pp 4 65 _ (by kernel_rfl) (stL_ended hs)) (by rw [run_equalIn_bool' w (d + 1) 4 _ _ Try.underlying4, beq_self_eq_true]) ?_
  refine eqf_cons (s := true) (r := true) rfl (pp 2 66 _ (by kernel_rfl) (stL_val hs)) (pp 2 66 _ (by kernel_rfl) (stL_val hs)) (by rw [run_equalIn_int w (d + 1) 2 .i64 .i64 _ _ Try.underlying2, beq_self_eq_true]) ?_
  refine eqf_cons (s := true) (r := true) rfl (pp 40 67 _ (by kernel_rfl) (stL_trap hs)) (pp 40 67 _ (by kernel_rfl) (stL_trap hs)) (by rw [run_equalIn_int w (d + 1) 40 .i64 .i64 _ _ Try.underlying40, beq_self_eq_true]) ?_
  exact eqf_last rfl (pp 3 68 _ (by kernel_rfl) (stL_steps hs)) (pp 3 68 _ (by kernel_rfl) (stL_steps hs)) (by rw [run_equalIn_int w (d + 1) 3 .i64 .i64 _ _ Try.underlying3, beq_self_eq_true])
set_option maxRecDepth 100000 in
theorem same_eql (s : St) (hs : s.regs.length = 64) (w : World) : (binOp .eql 42 (.agg (stL s).toArray) (.agg (stL s).toArray)).run Try.prog w = .ok (.bool true) w := by
  rw [run_eql_struct, eq_st 9997 s hs w]
  rfl
set_option maxRecDepth 100000 in
theorem same_neq (s : St) (hs : s.regs.length = 64) (w : World) : (binOp .neq 42 (.agg (stL s).toArray) (.agg (stL s).toArray)).run Try.prog w = .ok (.bool false) w := by
  rw [run_neq_struct, eq_st 9997 s hs w]
  rfl
set_option maxRecDepth 100000 in
theorem regs_neq (l : List Int) (hl : l.length = 64) (w : World) : (binOp .neq 39 (.agg (l.map (Value.int .i64)).toArray) (.agg (l.map (Value.int .i64)).toArray)).run Try.prog w = .ok (.bool false) w := by
  rw [run_neq_struct, eq_regs 9998 l hl w]
  rfl
end Go.Proofs.Ytkgoljbimblkhaa.B
