/- Worlds part by part: part of a block is read. -/
import Derived.Test.YtenkganofobioaaDoorSep
namespace Go.Proofs.YtenkganofobioaaDoor.Sep
open Go.RowKit Go.Proofs.YtenkganofobioaaDoor.Mine Go.Proofs.YtenkganofobioaaDoorW.PrintWords Go.Proofs.YtenkganofobioaaDoorW.PrintLast Go.Proofs.YtenkganofobioaaDoorW.PrintMore
set_option linter.unusedVariables false
set_option linter.unusedSimpArgs false
theorem run_loadVar_part {P : Program} (w : World) (g : Nat) (t ty : TypeId) (cs : Array Value) (o : Nat) (vs : List Value) (d : TypeDesc) (hg : w.heap[g]? = some (.cells cs t (0, 0)))
    (hu : P.underlying ty = some d) (hd : (match d with | .struct _ | .array _ _ => true | _ => false) = true) (hi : (P.info? ty).map (·.size) = some vs.length) (hv : ∀ j v, vs[j]? = some v → cs[o + j]? = some v) :
    (loadVar ty ⟨g, o, none⟩).run P w = .ok (.agg vs.toArray) w := by
  have hl : (loadCells ⟨g, o, none⟩ vs.length).run P w = .ok vs.toArray w :=
    run_loadCells_list (P := P) w ⟨g, o, none⟩ vs (fun j v hj => by
      have hadd : (⟨g, o, none⟩ : Addr).add j = ⟨g, o + j, none⟩ := by unfold Addr.add; split <;> simp_all
      rw [hadd, cell_of_row w g (o + j) cs t (0, 0) hg]
      exact hv j v hj)
  cases hq : P.info? ty with
  | none => simp [hq] at hi
  | some i =>
    have hs : i.size = vs.length := by simpa [hq] using hi
    have hagg : (isAgg ty).run P w = .ok true w := by
      unfold isAgg
      rw [Sem.run_bind, run_underlying hu w]
      cases d <;> simp_all
    simp [loadVar, Sem.run_bind, hagg, sizeOf, typeInfo, hq, hs, hl]
section
variable {P : Program} {ops : Array Oper} {rest : List Oper} {o : Oper} {a : Act} {Q : Exit → Act → World → Prop} {W0 w : World} {L : List Chunk} {g : Nat} {t : TypeId} {cs : Array Value}
/-- A struct or an array is read out of a block's middle. -/
theorem ev_load_part (HS : Sat W0 w L) (i : Nat) (hi : L[i]? = some (blk g t cs)) (hgd : o.guard = none) (ty : TypeId) (x : Operand) (ho : o.op = .load ty x) {N : Tmp} (hd : o.dst = some N) (off : Nat) (hx : a.eval x = .pointer (some ⟨g, off, none⟩)) (d : TypeDesc)
    (hu : P.underlying ty = some d) (hdd : (match d with | .struct _ | .array _ _ => true | _ => false) = true) (vs : List Value) (hin : (P.info? ty).map (·.size) = some vs.length) (hv : ∀ j v, vs[j]? = some v → cs[off + j]? = some v)
    (h : wpList P ops Q rest (a.put (some N) (.agg vs.toArray)) w) : wpList P ops Q (o :: rest) a w := by
  refine wpList_plain hgd fun K hK => ?_
  unfold Oper.wp execOp
  simp only [ho, hx, Instr.loadAt, Instr.sureAddr, Sem.run_bind, Sem.run_pure, Result.andThen_ok, run_loadVar_part w g t ty cs off vs d (HS.blk i hi) hu hdd hin hv]
  rw [← hd] at h
  exact hK _ _ h
end
end Go.Proofs.YtenkganofobioaaDoor.Sep
