/- Worlds part by part, more events: copy, make. -/
import Derived.Test.YtenkganofobioaaDoorSep
import Derived.Test.YtenkganofobioaaDoorCopy
namespace Go.Proofs.YtenkganofobioaaDoor.Sep
open Go.RowKit Go.Proofs.YtenkganofobioaaDoor.Mine Go.Proofs.YtenkganofobioaaDoor.Copy Go.Proofs.YtenkganofobioaaDoorW.PrintWords Go.Proofs.YtenkganofobioaaDoorW.PrintLast Go.Proofs.YtenkganofobioaaDoorW.PrintMore
set_option linter.unusedVariables false
set_option linter.unusedSimpArgs false
section
variable {P : Program} {ops : Array Oper} {rest : List Oper} {o : Oper} {a : Act} {Q : Exit → Act → World → Prop} {W0 w : World} {L : List Chunk}
/-- copy(dst[lo:hi], src): dst an own row of words. -/
theorem ev_copy (HS : Sat W0 w L) (i : Nat) {A : Option Addr} {n c : Nat} {m : List Int} (hi : L[i]? = some (row (Kd.int .i64) 2 (.slice A n c) m)) {A2 : Option Addr} {n2 c2 : Nat} {ys : List Int} (hC : (Kd.int .i64).C w A2 n2 ys)
    {dT : TypeId} (hu : P.underlying dT = some (.slice 2)) (hsz : (P.info? 2).map (·.size) = some 1) (hgd : o.guard = none) (s x : Operand) (ho : o.op = .call { callee := .builtin .copy, args := #[s, x], argTypes := #[dT, dT] }) (lo hi' : Nat) (hlo : lo ≤ hi') (hhi : hi' ≤ m.length)
    {A1 : Option Addr} {n1 c1 : Nat} (hs : a.eval s = .slice A1 n1 c1) (hx : a.eval x = .slice A2 n2 c2) (hA1 : A1 = if c = lo then A else A.map (·.add (lo * 1))) (hn1 : n1 = hi' - lo)
    (h : ∀ v w1, Sat W0 w1 (L.set i (row (Kd.int .i64) 2 (.slice A n c) (over m lo (ys.take (hi' - lo))))) → wpList P ops Q rest (a.put o.dst v) w1) : wpList P ops Q (o :: rest) a w := by
  obtain ⟨S, hR, hlt, hput⟩ := HS.open i hi
  obtain ⟨W', hrun, hR', hcops, hfar⟩ := run_own_copy (P := P) (base := 0) (c1 := c1) (c2 := c2) hu hsz hR hC lo hi' hlo hhi A1 hA1 n1 hn1
  have hb := hcops.below (Below.refl 0 w) (Nat.le_refl 0)
  refine wpList_plain hgd fun K hK => ?_
  unfold Oper.wp execOp
  simp only [ho, resolve, invoke, builtin, Sem.run_bind, Sem.run_pure, Result.andThen_ok, List.map_toArray, List.map_cons, List.map_nil, hs, hx, hrun]
  exact hK _ _ (h _ _ (hput W' _ ⟨hb.os, hb.tape, hb.output, hb.size, fun k _ hs => hfar k (fun e => hs (hR.1 k e.symm))⟩ (Kd.R_mono hR' (fun k hk => .inl hk))))
/-- make([]T, n). -/
theorem ev_make {α : Type} (d : Kd α) {e : Nat} (HS : Sat W0 w L) (hgd : o.guard = none) {N : Tmp} (hd : o.dst = some N) (t : TypeId) (x y : Operand) (ho : o.op = .makeSlice t x y) (n : Int) (hx : a.eval x = .int .i64 n) (hy : a.eval y = .int .i64 n)
    (ht : P.underlying t = some (.slice e)) (z : Value) (bytes : Nat) (hinfo : (P.info? e).map (fun i => (i.zero, i.size, i.bytes)) = some (some z, d.sz, bytes)) (hz : z.cells.size = d.sz) (hs0 : 0 < d.sz) (hb0 : 0 < bytes)
    (z0 : α) (hzero : d.M w w.heap.size (fun _ => False) z0 z.cells.toList) (h0 : 0 ≤ n) (hl : n.toNat * bytes ≤ 281474976710656)
    (h : ∀ A c w1, Sat W0 w1 (row d e (.slice A n.toNat c) (List.replicate n.toNat z0) :: L) → wpList P ops Q rest (a.put (some N) (.slice A n.toNat c)) w1) : wpList P ops Q (o :: rest) a w := by
  refine Kd.R_make d (w0 := w) w.heap.size e hgd hd t x y ho n hx hy ht z bytes hinfo hz hs0 hb0 z0 (ok := fun _ => True) (okp := fun _ => False) hzero (fun _ h => h.elim) trivial h0 hl (Below.refl _ _) (Nat.le_refl _) ?_
  intro v1 w1 hR hb hg hat
  obtain ⟨A, c, he⟩ := Kd.R_slice hR
  subst he
  have HS1 := HS.made hb hR
  rw [List.length_replicate] at HS1 ⊢
  rw [hd]
  exact h A c w1 HS1
end
section
variable {P : Program} {ops : Array Oper} {o : Oper} {a : Act} {Q : Exit → Act → World → Prop} {Kc : Act → World → Prop} {W0 w : World} {L : List Chunk}
theorem ev_box_step (HS : Sat W0 w L) (hw : Region.wanted o (yielded ops a.tmps) = true) {N : Tmp} (hd : o.dst = some N) {cs : Array Value} {t : TypeId}
    (hrun : (execOp a.eval o).run P w = .ok (.value (.pointer (some ⟨w.heap.size, 0, none⟩))) (w.alloc (.cells cs t (0, 0))))
    (h : ∀ g w1, Sat W0 w1 (blk g t cs :: L) → Kc (a.put (some N) (.pointer (some ⟨g, 0, none⟩))) w1) : if Region.wanted o (yielded ops a.tmps) = true then Oper.wp P o a w Kc Q else Kc (a.put (some N) undef) w := by
  rw [if_pos hw]
  unfold Oper.wp
  rw [hrun]
  show Kc (a.put o.dst _) _
  rw [hd]
  exact h _ _ (HS.alloc t cs)
theorem ev_store_step (HS : Sat W0 w L) (i : Nat) {g : Nat} {t : TypeId} {cs : Array Value} (hi : L[i]? = some (blk g t cs)) (hw : Region.wanted o (yielded ops a.tmps) = true) (ty : TypeId) (p x : Operand) (ho : o.op = .store ty p x) (hd : o.dst = none) (hp : a.eval p = .pointer (some ⟨g, 0, none⟩)) (vs : List Value) (hx : a.eval x = .agg vs.toArray)
    (hin : (P.info? ty).map (·.size) = some vs.length) (hl : vs.length = cs.size) (h1 : ∀ q ∈ vs, q.oneCell' = true)
    (h : ∀ w1, Sat W0 w1 (L.set i (blk g t vs.toArray)) → Kc a w1) : if Region.wanted o (yielded ops a.tmps) = true then Oper.wp P o a w Kc Q else Kc (a.put none undef) w := by
  rw [if_pos hw]
  have hr := run_store_run (P := P) (w := w) (o := 0) ty (.agg vs.toArray) vs (HS.blk i hi) (by simp [Value.cells]) hin (by omega) h1
  unfold Oper.wp execOp
  simp only [ho, hp, hx, Sem.run_bind, Sem.run_pure, hr, Result.andThen_ok]
  show Kc (a.put o.dst undef) _
  rw [hd]
  exact h _ (HS.stores i hi vs hl)
end
section
variable {P : Program} {ops : Array Oper} {rest : List Oper} {o : Oper} {a : Act} {Q : Exit → Act → World → Prop} {α : Type} {W0 w : World} {L : List Chunk}
theorem append_types {t t' e e' : TypeId} (ht : P.underlying t = some (.slice e)) (ht' : P.underlying t' = some (.slice e')) (ty : TypeId) (v x : Value) (w : World) : (Builtin.append_ #[t, t'] ty #[v, x]).run P w = (Builtin.append_ #[t, t] ty #[v, x]).run P w := by
  cases v <;> simp [Builtin.append_, run_underlying ht, run_underlying ht']
/-- append(v, ys...), ys of another named type. -/
theorem ev_append2 (d : Kd α) (HS : Sat W0 w L) (i : Nat) (s x : Operand) (t t' e e' : TypeId) (z : Value) (bytes : Nat) {v : Value} {xs ys : List α} {A : Option Addr} {m c : Nat} (hi : L[i]? = some (row d e v xs)) (hC : d.C w A m ys)
    (hKM : ∀ x cs, d.K w x cs → d.M w 0 (fun _ => False) x cs) (hgd : o.guard = none) (ho : o.op = .call { callee := .builtin .append, args := #[s, x], argTypes := #[t, t'] }) (hs : a.eval s = v) (hx : a.eval x = .slice A m c)
    (ht : P.underlying t = some (.slice e)) (ht' : P.underlying t' = some (.slice e')) (hinfo : (P.info? e).map (fun i => (i.zero, i.size, i.bytes)) = some (some z, d.sz, bytes)) (hz : z.cells.size = d.sz) (hs0 : 0 < d.sz) (hb0 : 0 < bytes) (hl : (xs.length + m) * bytes ≤ 140737488355328)
    (h : ∀ v1 w1, Sat W0 w1 (L.set i (row d e v1 (xs ++ ys))) → wpList P ops Q rest (a.put o.dst v1) w1) : wpList P ops Q (o :: rest) a w := by
  refine wpList_plain hgd fun K hK => ?_
  obtain ⟨S, HO, hlt, hput⟩ := HS.open i hi
  have hw : Region.wanted { o with op := .call { callee := .builtin .append, args := #[s, x], argTypes := #[t, t] } } (yielded ops a.tmps) = true := by simp [Region.wanted, hgd]
  have key := Kd.R_append_rows_step (P := P) (ops := ops) (o := { o with op := .call { callee := .builtin .append, args := #[s, x], argTypes := #[t, t] } }) (a := a) (Q := Q) (Kc := K) d (w0 := w) 0 hw s x t e z bytes rfl ht hinfo hz hs0 hb0 v xs ys A m c (fun k => S k ∨ w.heap.size ≤ k) (fun _ => False) hs hx (Kd.R_mono HO (fun k hk => .inl hk)) hC hKM (fun _ h => h.elim) (fun k hk => .inr hk) (Below.refl _ _) (Nat.zero_le _) hl
    (fun v1 w1 hR hb hg hat => hK _ _ (h v1 w1 (hput w1 _ ⟨hg.os, hg.tape, hg.output, hg.size, fun k hk hs => hg.block k hk (fun e => hs (HO.1 k e.symm))⟩ hR)))
  rw [if_pos hw] at key
  unfold Oper.wp execOp at key ⊢
  simp only [ho, resolve, invoke, builtin, Sem.run_bind, Sem.run_pure, Result.andThen_ok, List.map_toArray, List.map_cons, List.map_nil, append_types ht ht'] at key ⊢
  exact key
end
end Go.Proofs.YtenkganofobioaaDoor.Sep
