/- Parsing: whole. -/
import Derived.Test.YtenkganofobioaaDoorPaKeep
namespace Go.Proofs.YtenkganofobioaaDoor.B
open Go.RowKit Go.Proofs.YtenkganofobioaaDoor.Mine Go.Proofs.YtenkganofobioaaDoor.Sep Go.Proofs.YtenkganofobioaaDoorW.PrintWords Go.Proofs.YtenkganofobioaaDoorW.PrintLast Go.Proofs.YtenkganofobioaaDoorW.PrintMore
set_option linter.unusedVariables false
set_option linter.unusedSimpArgs false
attribute [local go_sem] Instr.field asAgg
/-- A part of the parser that answers an expression is called: it does what p tells. -/
def ExC (all : List TK) (f : FuncId) (xs : List Value) (p : PS → Option (EX × PS)) : Prop :=
  ∀ (W0 w : World) (L : List Chunk) (g : Nat) (A0 : Addr) (c0 io : Nat) (s : PS) (e : EX) (s' : PS), GL W0 → L[io]? = some (old W0) → POk all s → p s = some (e, s') → Sat W0 w (psB g A0 c0 all.length s :: tkR A0 c0 all :: L) →
    Calls Tryd.prog f (Value.pointer (some ⟨g, 0, none⟩) :: xs).toArray w fun r w' => ∃ (A : Option Addr) (n c : Nat), r = .returned (.agg (exA e (.slice A n c)).toArray) ∧ Sat W0 w' (exV e (.slice A n c) :: psB g A0 c0 all.length s' :: tkR A0 c0 all :: L)
theorem rot4 {W0 w : World} {a b c d : Chunk} {L : List Chunk} (HS : Sat W0 w (a :: b :: c :: d :: L)) : Sat W0 w (c :: d :: a :: b :: L) := ((HS.front 2 rfl).front 3 rfl).swap
set_option maxRecDepth 100000 in
set_option maxHeartbeats 8000000 in
theorem whole_walk {all : List TK} {F : Fns} (hF : FKeep all F) (hE : ExC all 86 [.int .i64 0] (exprP F 5)) : ExC all 73 [] (wholeP F) := by
  intro W0 w L g A0 c0 io s e s' hG hio h hp HS
  have hmf : ∀ (fn : Fn) (first cap : Array Value) (w : World), (Instr.makeFunc fn first cap).run Tryd.prog w = .ok (.func fn first cap) w := fun _ _ _ _ => rfl
  have HDN := Aside0.mk (fun (w : World) (L : List Chunk) (HS : Sat W0 w (psB g A0 c0 all.length s :: tkR A0 c0 all :: L)) => down_callsP h HS)
  unfold wholeP at hp
  cases hd : (downP s).1 with
  | false =>
    rw [hd] at HDN hp
    obtain ⟨rfl, rfl⟩ := pair_inj hp
    clear hp hd
    go_enter_defers Tryd.func73, Tryd.ntmps73
    go_upto_region 1 with (first | ((with_reducible refine gate_dst (N := 1) rfl ?_); go_must (refine ev_box HS rfl (N := 1) rfl (cs := #[.pointer (some ⟨g, 0, none⟩)]) (t := 66) ?hrun ?_); (case hrun => first | (go_simp; done) | (go_simp; rfl)); clear HS; intro g1 w HS) | ((with_reducible refine gate_dst (N := 2) rfl ?_); go_must (refine ev_box HS rfl (N := 2) rfl (cs := #[.int .i64 0, .int .i64 0, .int .i64 0, .int .i64 0, .string ⟨#[]⟩, .int .i64 0, .slice none 0 0]) (t := 51) ?hrun ?_); (case hrun => first | (go_simp; done) | (go_simp; rfl)); clear HS; intro g2 w HS))
    replace HS := rot4 HS
    have cb := HS.cell 3 rfl
    go_upto_region 2 with (go_at_call 60; refine (HDN.out _ _ HS).mono ?_; rintro e_ w_ ⟨rfl, HS_⟩; clear HS; have HS := HS_; clear HS_)
    clear cb
    go_wp2_with (((with_reducible refine gate_store (t := 51) (p := 2) rfl ?_); go_must (refine ev_store HS 2 rfl rfl 51 (.tmp 2) (.tmp 6) rfl rfl rfl [.int .i64 0, .int .i64 0, .int .i64 0, .int .i64 0, .string ⟨#[]⟩, .int .i64 0, .slice none 0 0] ?hx (by kernel_rfl) (by rfl) ?h1 ?_); (case hx => first | rfl | (go_simp; done)); (case h1 => simp [Value.oneCell']); clear HS; intro w HS))
    refine ⟨_, results_cell_row (p := 2) rfl _ w g2 51 _ (0, 0) _ rfl (HS.blk 2 rfl) Tryd.underlying51 rfl (by kernel_rfl), ?_⟩
    refine ⟨none, 0, 0, rfl, ?_⟩
    exact ex_none z51 rfl (rot4 HS).tail.tail
  | true =>
    rw [hd] at HDN hp
    simp only [if_true] at hp
    cases he : exprP F 5 (downP s).2 with
    | none => rw [he] at hp; cases hp
    | some r =>
      obtain ⟨e1, s2⟩ := r
      rw [he] at hp
      obtain ⟨rfl, rfl⟩ := pair_inj hp
      have k1 := expr_keeps hF 5 _ _ _ h.down he
      have HE := Aside0.mk (fun (w : World) (c1 c2 : Chunk) (HS : Sat W0 w (psB g A0 c0 all.length (downP s).2 :: tkR A0 c0 all :: c1 :: c2 :: L)) => hE W0 w (c1 :: c2 :: L) g A0 c0 (io + 2) _ _ _ hG (by simpa using hio) h.down he HS)
      have hdd := k1.2
      rw [down_deep hd] at hdd
      have HUP := Aside0.mk (fun (w : World) (gb : Nat) (L : List Chunk) (HS : Sat W0 w (psB g A0 c0 all.length s2 :: blk gb 66 #[.pointer (some ⟨g, 0, none⟩)] :: L)) => upw_d (u := .returning) k1.1.d0 k1.1.d1 HS)
      clear hp hd he hdd k1
      go_enter_defers Tryd.func73, Tryd.ntmps73
      go_upto_region 1 with (first | ((with_reducible refine gate_dst (N := 1) rfl ?_); go_must (refine ev_box HS rfl (N := 1) rfl (cs := #[.pointer (some ⟨g, 0, none⟩)]) (t := 66) ?hrun ?_); (case hrun => first | (go_simp; done) | (go_simp; rfl)); clear HS; intro g1 w HS) | ((with_reducible refine gate_dst (N := 2) rfl ?_); go_must (refine ev_box HS rfl (N := 2) rfl (cs := #[.int .i64 0, .int .i64 0, .int .i64 0, .int .i64 0, .string ⟨#[]⟩, .int .i64 0, .slice none 0 0]) (t := 51) ?hrun ?_); (case hrun => first | (go_simp; done) | (go_simp; rfl)); clear HS; intro g2 w HS))
      replace HS := rot4 HS
      have cb := HS.cell 3 rfl
      go_upto_region 3 with (go_at_call 60; refine (HDN.out _ _ HS).mono ?_; rintro e_ w_ ⟨rfl, HS_⟩; clear HS; have HS := HS_; clear HS_)
      clear cb
      have cb := HS.cell 3 rfl
      go_upto_region 4 with (fail)
      go_wp2_with (first | (go_at_call 86; refine (HE.out _ _ _ HS).mono ?_; rintro e_ w_ ⟨vA, vn, vc, rfl, HS_⟩; clear HS; have HS := HS_; clear HS_) | ((with_reducible refine gate_store (t := 51) (p := 2) rfl ?_); go_must (refine ev_store HS 3 rfl rfl 51 (.tmp 2) (.tmp 9) rfl rfl rfl (exA e1 (.slice vA vn vc)) ?hx (by kernel_rfl) (by rfl) ?h1 ?_); (case hx => first | rfl | (go_simp; done)); (case h1 => simp [Value.oneCell']); clear HS; intro w HS))
      refine leaves_cons (f := 85) (args := #[.pointer (some ⟨g1, 0, none⟩)]) (by simp) (by simp [go_sem]) ?_
      replace HS : Sat W0 w (exV e1 (.slice vA vn vc) :: psB g A0 c0 all.length s2 :: tkR A0 c0 all :: blk g2 51 (exA e1 (.slice vA vn vc)).toArray :: blk g1 66 #[.pointer (some ⟨g, 0, none⟩)] :: L) := HS
      refine (HUP.out _ _ _ ((HS.front 1 rfl).front 4 rfl).swap).mono ?_
      rintro e_ u' w'' ⟨rfl, rfl, HS2⟩
      refine ⟨_, results_cell_row (p := 2) rfl _ w'' g2 51 _ (0, 0) _ rfl (HS2.blk 4 rfl) Tryd.underlying51 rfl (by kernel_rfl), ?_⟩
      exact ⟨vA, vn, vc, rfl, ((HS2.front 2 rfl).erase 2).erase 3⟩
end Go.Proofs.YtenkganofobioaaDoor.B
