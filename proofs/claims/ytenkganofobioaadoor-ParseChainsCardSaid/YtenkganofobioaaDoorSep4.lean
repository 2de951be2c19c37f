/- Worlds part by part: rows of rows: a literal of an own row, append of own rows. -/
import Derived.Test.YtenkganofobioaaDoorSep
namespace Go.Proofs.YtenkganofobioaaDoor.Sep
open Go.RowKit Go.Proofs.YtenkganofobioaaDoor.Mine Go.Proofs.YtenkganofobioaaDoorW.PrintWords Go.Proofs.YtenkganofobioaaDoorW.PrintLast Go.Proofs.YtenkganofobioaaDoorW.PrintMore
set_option linter.unusedVariables false
set_option linter.unusedSimpArgs false
section
variable {P : Program} {ops : Array Oper} {rest : List Oper} {o : Oper} {a : Act} {Q : Exit → Act → World → Prop} {α : Type} {W0 w : World} {L : List Chunk}
/-- An own row in a literal's block of one: a row of rows. -/
theorem Sat.litOwn {d : Kd α} {e e2 : Nat} {v : Value} {xs : List α} (HS : Sat W0 w (Sep.row d e v xs :: L)) :
    Sat W0 (w.alloc (.cells #[v] e2 (0, 0))) (Sep.row (Kd.slice e d) e2 (.slice (some ⟨w.heap.size, 0, none⟩) 1 1) [xs] :: L) := by
  have hb := below_alloc (Below.refl w.heap.size w) (.cells #[v] e2 (0, 0))
  refine HS.upd (c' := Sep.row (Kd.slice e d) e2 (.slice (some ⟨w.heap.size, 0, none⟩) 1 1) [xs]) 0 rfl (fun s hs => ⟨⟨hb.os, hb.tape, hb.output, hb.size, fun k hk _ => hb.block k hk⟩, ?_⟩)
  refine ⟨fun k hk => .inr ?_, [v], ?_, ?_⟩
  · have : w.heap.size = k := by simpa [Value.ownBlock] using hk
    omega
  · have h2 := World.ownsRow_lit (base := 0) (e := e2) (size := 1) w #[v] 1 (Nat.zero_le _) (by simp [maxLen]) (by simp)
    have h3 : (w.alloc (.cells #[v] e2 (0, 0))).ownsRow 0 e2 1 (.slice (some ⟨w.heap.size, 0, none⟩) 1 1) 1 [v] := by simpa using h2
    exact h3
  · refine (Reps.none _ _).snoc (ps := []) (cs := []) ?_ rfl
    have h1 := (Sep.row d e v xs).bound hs
    have h2 := (Sep.row d e v xs).move (w1 := w.alloc (.cells #[v] e2 (0, 0))) h1 (fun k hk hl => hb.block k hl)
    refine ⟨v, rfl, Kd.R_mono h2 (fun k hk => ⟨.inl hk.1, ?_⟩)⟩
    intro h
    have : k = w.heap.size := by simpa [Value.ownBlock] using h
    have := hk.2
    omega
/-- A literal of one own row. -/
theorem ev_lit_own {d : Kd α} {e e2 : Nat} {v : Value} {xs : List α} (HS : Sat W0 w (Sep.row d e v xs :: L)) (hgd : o.guard = none) {N : Tmp} (hd : o.dst = some N)
    (hrun : (execOp a.eval o).run P w = .ok (.value (.slice (some ⟨w.heap.size, 0, none⟩) 1 1)) (w.alloc (.cells #[v] e2 (0, 0))))
    (h : ∀ g w1, Sat W0 w1 (Sep.row (Kd.slice e d) e2 (.slice (some ⟨g, 0, none⟩) 1 1) [xs] :: L) → wpList P ops Q rest (a.put (some N) (.slice (some ⟨g, 0, none⟩) 1 1)) w1) : wpList P ops Q (o :: rest) a w :=
  Kd.event_run hgd hrun (by rw [hd]; exact h _ _ HS.litOwn)
/-- append(v, ys...), ys an own row that goes over. -/
theorem ev_append_own (d : Kd α) (s x : Operand) (t e : TypeId) (z : Value) (bytes : Nat) {v : Value} {xs ys : List α} {A : Option Addr} {m c : Nat} (HS : Sat W0 w (Sep.row d e v xs :: Sep.row d e (.slice A m c) ys :: L))
    (hgd : o.guard = none) (ho : o.op = .call { callee := .builtin .append, args := #[s, x], argTypes := #[t, t] }) (hs : a.eval s = v) (hx : a.eval x = .slice A m c)
    (ht : P.underlying t = some (.slice e)) (hinfo : (P.info? e).map (fun i => (i.zero, i.size, i.bytes)) = some (some z, d.sz, bytes)) (hz : z.cells.size = d.sz) (hs0 : 0 < d.sz) (hb0 : 0 < bytes) (hl : (xs.length + m) * bytes ≤ 140737488355328)
    (h : ∀ v1 w1, Sat W0 w1 (Sep.row d e v1 (xs ++ ys) :: L) → wpList P ops Q rest (a.put o.dst v1) w1) : wpList P ops Q (o :: rest) a w := by
  obtain ⟨S, ⟨s1, s2, h1, h2, u1, u2, dj⟩, hlt, hput⟩ := HS.join.open 0 rfl
  obtain ⟨A', c', he, hle, hr⟩ := OwnRow.reads h2.2
  injection he with e1 e2 e3
  subst e1 e2 e3
  refine Kd.R_append_rows d (Rr := d.M w 0 (fun k => s2 k ∧ some k ≠ (Value.slice A ys.length c).ownBlock)) (w0 := w) 0 hgd s x t e z bytes ho ht hinfo hz hs0 hb0 v xs ys A ys.length c (fun k => S k ∨ w.heap.size ≤ k) (fun k => s2 k ∧ some k ≠ (Value.slice A ys.length c).ownBlock) hs hx (Kd.R_mono h1 (fun k hk => .inl (u1 k hk))) hr (fun _ _ h => h) (fun k hk => ⟨.inl (u2 k hk.1), fun e => dj k (h1.1 k e.symm) hk.1⟩) (fun k hk => .inr hk) (Below.refl _ _) (Nat.zero_le _) hl ?_
  intro v1 w1 hR hb hg hat
  exact h v1 w1 (hput w1 _ ⟨hg.os, hg.tape, hg.output, hg.size, fun k hk hs => hg.block k hk (fun e => hs (u1 k (h1.1 k e.symm)))⟩ hR)
end
end Go.Proofs.YtenkganofobioaaDoor.Sep
