/- AstSame: places don't count, all else does, for every expression, every part, every place. -/
import Derived.Test.YtaammdmaldodaaaDoorAstSameP
import Derived.Test.YtaammdmaldodaaaDoorAstOpen
namespace Go.Proofs.YtaammdmaldodaaaDoor.B
open Go.RowKit Go.Proofs.YtaammdmaldodaaaDoor.Mine Go.Proofs.YtaammdmaldodaaaDoor.Sep Go.Proofs.YtaammdmaldodaaaDoorW.PrintWords Go.Proofs.YtaammdmaldodaaaDoorW.PrintLast Go.Proofs.YtaammdmaldodaaaDoorW.PrintMore
set_option linter.unusedVariables false
set_option linter.unusedSimpArgs false
section
variable {P : Program} {ops : Array Oper} {rest : List Oper} {o : Oper} {a : Act} {Q : Exit → Act → World → Prop} {α : Type} {W0 w : World} {L : List Chunk}
/-- A literal, as a block. -/
theorem ev_litb (HS : Sat W0 w L) (hgd : o.guard = none) {N : Tmp} (hd : o.dst = some N) {e n : Nat} {cs : Array Value}
    (hrun : (execOp a.eval o).run P w = .ok (.value (.slice (some ⟨w.heap.size, 0, none⟩) n n)) (w.alloc (.cells cs e (0, 0))))
    (h : ∀ g w1, Sat W0 w1 (blk g e cs :: L) → wpList P ops Q rest (a.put (some N) (.slice (some ⟨g, 0, none⟩) n n)) w1) : wpList P ops Q (o :: rest) a w :=
  Kd.event_run hgd hrun (by rw [hd]; exact h _ _ (HS.alloc e cs))
theorem C_one {d : Kd α} {g t : Nat} {cs : List Value} {x : α} (hb : w.heap[g]? = some (.cells cs.toArray t (0, 0))) (hK : d.K w x cs) : d.C w (some ⟨g, 0, none⟩) 1 [x] :=
  ⟨rfl, by decide, fun _ => ⟨⟨g, 0, none⟩, rfl, fun j p hj => by
    have hj0 : j = 0 := by have := (List.getElem?_eq_some_iff.1 hj).1; simpa using this
    subst hj0
    obtain rfl : x = p := by simpa using hj
    refine ⟨cs, d.K_len hK, hK, fun i u hu => ?_⟩
    rw [Nat.zero_mul, Nat.zero_add, show (⟨g, 0, none⟩ : Addr).add i = ⟨g, i, none⟩ from by unfold Addr.add; split <;> simp_all, blk_cell hb i]
    simpa using hu⟩⟩
/-- append of one element that lies in a block of the call's own. -/
theorem ev_append_blk (d : Kd α) (HS : Sat W0 w L) (i j : Nat) (s x : Operand) (t e e' : TypeId) (z : Value) (bytes : Nat) {v : Value} {xs : List α} {p : α} {cs : List Value} {g c : Nat} (hi : L[i]? = some (row d e v xs)) (hj : L[j]? = some (blk g e' cs.toArray)) (hM : d.M w 0 (fun _ => False) p cs)
    (hgd : o.guard = none) (ho : o.op = .call { callee := .builtin .append, args := #[s, x], argTypes := #[t, t] }) (hs : a.eval s = v) (hx : a.eval x = .slice (some ⟨g, 0, none⟩) 1 c)
    (ht : P.underlying t = some (.slice e)) (hinfo : (P.info? e).map (fun i => (i.zero, i.size, i.bytes)) = some (some z, d.sz, bytes)) (hz : z.cells.size = d.sz) (hs0 : 0 < d.sz) (hb0 : 0 < bytes) (hl : (xs.length + 1) * bytes ≤ 140737488355328)
    (h : ∀ v1 w1, Sat W0 w1 (L.set i (row d e v1 (xs ++ [p]))) → wpList P ops Q rest (a.put o.dst v1) w1) : wpList P ops Q (o :: rest) a w := by
  have hb := HS.blk j hj
  obtain ⟨S, HO, hlt, hput⟩ := HS.open i hi
  refine Kd.R_append_rows d (Rr := fun y c => y = p ∧ c = cs) (w0 := w) 0 hgd s x t e z bytes ho ht hinfo hz hs0 hb0 v xs [p] (some ⟨g, 0, none⟩) 1 c (fun k => S k ∨ w.heap.size ≤ k) (fun _ => False) hs hx (Kd.R_mono HO (fun k hk => .inl hk)) ?_ (fun y c hy => by obtain ⟨rfl, rfl⟩ := hy; exact hM) (fun _ h => h.elim) (fun k hk => .inr hk) (Below.refl _ _) (Nat.zero_le _) hl ?_
  · refine ⟨rfl, by decide, fun _ => ⟨⟨g, 0, none⟩, rfl, fun j q hq => ?_⟩⟩
    have hj0 : j = 0 := by have := (List.getElem?_eq_some_iff.1 hq).1; simpa using this
    subst hj0
    obtain rfl : p = q := by simpa using hq
    refine ⟨cs, d.K_len (d.K_of_M hM), ⟨rfl, rfl⟩, fun i u hu => ?_⟩
    rw [Nat.zero_mul, Nat.zero_add, show (⟨g, 0, none⟩ : Addr).add i = ⟨g, i, none⟩ from by unfold Addr.add; split <;> simp_all, blk_cell hb i]
    simpa using hu
  · intro v1 w1 hR hb hg hat
    exact h v1 w1 (hput w1 _ ⟨hg.os, hg.tape, hg.output, hg.size, fun k hk hs => hg.block k hk (fun e => hs (HO.1 k e.symm))⟩ hR)
end
theorem nil_C {α : Type} (d : Kd α) (w : World) : d.C w none ([] : List α).length [] := ⟨rfl, by simp, fun h => absurd h (Nat.lt_irrefl 0)⟩
set_option maxRecDepth 100000 in
set_option maxHeartbeats 4000000 in
theorem progsame_yes {Ag Af Ag' Af' : Option Addr} {cg cf cg' cf' : Nat} (gs gs' : List S54) (fs fs' : List S41) (W : World) (hg : Kd.C k54 W Ag gs.length gs) (hf : Kd.C k41 W Af fs.length fs) (hg' : Kd.C k54 W Ag' gs'.length gs') (hf' : Kd.C k41 W Af' fs'.length fs') (hb : allB sameG gs gs' = true) :
    Calls Tryd.prog 13 #[.agg #[.slice Ag gs.length cg, .slice Af fs.length cf], .agg #[.slice Ag' gs'.length cg', .slice Af' fs'.length cf']] W fun e w' => e = .returned (.bool (allB sameG gs gs' && allB sameF fs fs')) ∧ Below W.heap.size W w' := by
  have HS := Sat.start W
  have HK1 := Aside0.mk (fun (w : World) (hb : Below W.heap.size W w) => eqfG_calls (A := Ag) (A' := Ag') (c := cg) (c' := cg') (fun x _ => sameG_calls x) w (Kd.C_below hg hb) (Kd.C_below hg' hb))
  have HK2 := Aside0.mk (fun (w : World) (hb : Below W.heap.size W w) => eqfF_calls (A := Af) (A' := Af') (c := cf) (c' := cf') (fun x _ => sameF_calls x) w (Kd.C_below hf hb) (Kd.C_below hf' hb))
  rw [hb] at HK1
  rw [hb]
  clear hb hg hf hg' hf'
  obtain ⟨b, hb0⟩ : ∃ b, b = allB sameF fs fs' := ⟨_, rfl⟩
  rw [← hb0] at HK2 ⊢
  clear hb0
  go_enter Tryd.func13, Tryd.ntmps13
  go_upto_region 1 with (first | ((with_reducible refine gate_dst (N := 2) rfl ?_); go_must (refine ev_box HS rfl (N := 2) rfl (cs := #[.slice Ag gs.length cg, .slice Af fs.length cf]) (t := 45) ?hrun ?_); (case hrun => first | (go_simp; done) | (go_simp; rfl)); clear HS; intro g2 w HS) | ((with_reducible refine gate_dst (N := 3) rfl ?_); go_must (refine ev_box HS rfl (N := 3) rfl (cs := #[.slice Ag' gs'.length cg', .slice Af' fs'.length cf']) (t := 45) ?hrun ?_); (case hrun => first | (go_simp; done) | (go_simp; rfl)); clear HS; intro g3 w HS))
  have cb2 := HS.cell 1 rfl
  have cb3 := HS.cell 0 rfl
  go_wp2_with (first | (go_at_call 25; refine (HK1.out _ (HS.old 2 rfl)).mono ?_; rintro e w_ ⟨rfl, hb⟩; replace HS := HS.below hb; clear hb cb2 cb3; have cb2 := HS.cell 1 rfl; have cb3 := HS.cell 0 rfl) | ((try (refine gate_guard (by rfl) ?_; dsimp only)); go_at_call 27; refine (HK2.out _ (HS.old 2 rfl)).mono ?_; rintro e w_ ⟨rfl, hb⟩; replace HS := HS.below hb; clear hb))
  go_ret
  exact ⟨rfl, HS.old 2 rfl⟩
set_option maxRecDepth 100000 in
set_option maxHeartbeats 4000000 in
theorem progsame_no {Ag Af Ag' Af' : Option Addr} {cg cf cg' cf' : Nat} (gs gs' : List S54) (fs fs' : List S41) (W : World) (hg : Kd.C k54 W Ag gs.length gs) (hf : Kd.C k41 W Af fs.length fs) (hg' : Kd.C k54 W Ag' gs'.length gs') (hf' : Kd.C k41 W Af' fs'.length fs') (hb : allB sameG gs gs' = false) :
    Calls Tryd.prog 13 #[.agg #[.slice Ag gs.length cg, .slice Af fs.length cf], .agg #[.slice Ag' gs'.length cg', .slice Af' fs'.length cf']] W fun e w' => e = .returned (.bool (allB sameG gs gs' && allB sameF fs fs')) ∧ Below W.heap.size W w' := by
  have HS := Sat.start W
  have HK1 := Aside0.mk (fun (w : World) (hb : Below W.heap.size W w) => eqfG_calls (A := Ag) (A' := Ag') (c := cg) (c' := cg') (fun x _ => sameG_calls x) w (Kd.C_below hg hb) (Kd.C_below hg' hb))
  have HK2 := Aside0.mk (fun (w : World) (hb : Below W.heap.size W w) => eqfF_calls (A := Af) (A' := Af') (c := cf) (c' := cf') (fun x _ => sameF_calls x) w (Kd.C_below hf hb) (Kd.C_below hf' hb))
  rw [hb] at HK1
  rw [hb]
  clear hb hg hf hg' hf'
  obtain ⟨b, hb0⟩ : ∃ b, b = allB sameF fs fs' := ⟨_, rfl⟩
  rw [← hb0] at HK2 ⊢
  clear hb0
  go_enter Tryd.func13, Tryd.ntmps13
  go_upto_region 1 with (first | ((with_reducible refine gate_dst (N := 2) rfl ?_); go_must (refine ev_box HS rfl (N := 2) rfl (cs := #[.slice Ag gs.length cg, .slice Af fs.length cf]) (t := 45) ?hrun ?_); (case hrun => first | (go_simp; done) | (go_simp; rfl)); clear HS; intro g2 w HS) | ((with_reducible refine gate_dst (N := 3) rfl ?_); go_must (refine ev_box HS rfl (N := 3) rfl (cs := #[.slice Ag' gs'.length cg', .slice Af' fs'.length cf']) (t := 45) ?hrun ?_); (case hrun => first | (go_simp; done) | (go_simp; rfl)); clear HS; intro g3 w HS))
  have cb2 := HS.cell 1 rfl
  have cb3 := HS.cell 0 rfl
  go_wp2_with (first | (go_at_call 25; refine (HK1.out _ (HS.old 2 rfl)).mono ?_; rintro e w_ ⟨rfl, hb⟩; replace HS := HS.below hb; clear hb cb2 cb3; have cb2 := HS.cell 1 rfl; have cb3 := HS.cell 0 rfl))
  go_ret
  exact ⟨rfl, HS.old 2 rfl⟩
theorem progsame_calls {Ag Af Ag' Af' : Option Addr} {cg cf cg' cf' : Nat} (gs gs' : List S54) (fs fs' : List S41) (W : World) (hg : Kd.C k54 W Ag gs.length gs) (hf : Kd.C k41 W Af fs.length fs) (hg' : Kd.C k54 W Ag' gs'.length gs') (hf' : Kd.C k41 W Af' fs'.length fs') :
    Calls Tryd.prog 13 #[.agg #[.slice Ag gs.length cg, .slice Af fs.length cf], .agg #[.slice Ag' gs'.length cg', .slice Af' fs'.length cf']] W fun e w' => e = .returned (.bool (allB sameG gs gs' && allB sameF fs fs')) ∧ Below W.heap.size W w' := by
  cases hb : allB sameG gs gs' with
  | true => rw [← hb]; exact progsame_yes gs gs' fs fs' W hg hf hg' hf' hb
  | false => rw [← hb]; exact progsame_no gs gs' fs fs' W hg hf hg' hf' hb
end Go.Proofs.YtaammdmaldodaaaDoor.B
