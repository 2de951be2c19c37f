/- Parsing: unary. -/
import Derived.Test.YtenkganofobioaaDoorPaStep
namespace Go.Proofs.YtenkganofobioaaDoor.B
open Go.RowKit Go.Proofs.YtenkganofobioaaDoor.Mine Go.Proofs.YtenkganofobioaaDoor.Sep Go.Proofs.YtenkganofobioaaDoorW.PrintWords Go.Proofs.YtenkganofobioaaDoorW.PrintLast Go.Proofs.YtenkganofobioaaDoorW.PrintMore
set_option linter.unusedVariables false
set_option linter.unusedSimpArgs false
attribute [local go_sem] Instr.field asAgg
theorem rot5 {W0 w : World} {a b c d e : Chunk} {L : List Chunk} (HS : Sat W0 w (a :: b :: c :: d :: e :: L)) : Sat W0 w (d :: e :: a :: b :: c :: L) := ((HS.front 3 rfl).front 4 rfl).swap
theorem now_fail (s : PS) (n : Int) : nowP (failP s n) = nowP s := by unfold failP; split <;> rfl
theorem now_down (s : PS) : nowP (downP s).2 = nowP s := by
  unfold downP
  split
  · rfl
  · split
    · exact now_fail s 13
    · rfl
theorem is_text {s : PS} {x : List UInt8} (h : isP s (bs x) = true) : (nowP s).f1.data.toList = x := by
  unfold isP at h
  simp only [Bool.and_eq_true] at h
  have := eq_of_beq h.2
  simpa [bs] using this
set_option maxRecDepth 100000 in
set_option maxHeartbeats 8000000 in
theorem unary_no {all : List TK} {F : Fns} (hF : FKeep all F) (hU : ExC all 92 [] F.unary) {W0 w : World} {L : List Chunk} {g : Nat} {A0 : Addr} {c0 io : Nat} {s : PS} {e : EX} {s' : PS} (hG : GL W0) (hio : L[io]? = some (old W0)) (h : POk all s) (hb : badP s = false)
    (hsg : isP s (bs [33]) = true ∨ isP s (bs [33]) = false ∧ isP s (bs [45]) = true) (hd : (downP s).1 = false) (hp : unaryP F s = some (e, s')) (HS : Sat W0 w (psB g A0 c0 all.length s :: tkR A0 c0 all :: L)) :
    Calls Tryd.prog 92 #[.pointer (some ⟨g, 0, none⟩)] w fun r w' => ∃ (A : Option Addr) (n c : Nat), r = .returned (.agg (exA e (.slice A n c)).toArray) ∧ Sat W0 w' (exV e (.slice A n c) :: psB g A0 c0 all.length s' :: tkR A0 c0 all :: L) := by
  have HOLD := Aside0.mk (show OldIn W0 L from ⟨io, hio⟩)
  have HGL := Aside0.mk hG
  have hmf : ∀ (fn : Fn) (first cap : Array Value) (w : World), (Instr.makeFunc fn first cap).run Tryd.prog w = .ok (.func fn first cap) w := fun _ _ _ _ => rfl
  clear hG hio
  unfold unaryP at hp
  rw [hb, show (isP s (bs [33]) || isP s (bs [45])) = true from by rcases hsg with h1 | ⟨h1, h2⟩ <;> simp [*]] at hp
  simp only [Bool.false_eq_true, if_false, if_true, hd] at hp
  clear hF hU
  rcases hsg with h33 | ⟨h33, h45⟩
  ·
    have HI1 := Aside0.mk (fun (w : World) (L : List Chunk) (HS : Sat W0 w (psB g A0 c0 all.length s :: tkR A0 c0 all :: L)) => show Calls Tryd.prog 43 #[.pointer (some ⟨g, 0, none⟩), .string ⟨#[33]⟩] w _ from is_at h h33 HS)
    have HBD := Aside0.mk (fun (w : World) (L : List Chunk) (HS : Sat W0 w (psB g A0 c0 all.length s :: tkR A0 c0 all :: L)) => bad_at hb HS)
    have HDN := Aside0.mk (fun (w : World) (L : List Chunk) (HS : Sat W0 w (psB g A0 c0 all.length s :: tkR A0 c0 all :: L)) => down_at h hd HS)
    have HNW := Aside0.mk (fun (w : World) (L : List Chunk) (HS : Sat W0 w (psB g A0 c0 all.length s :: tkR A0 c0 all :: L)) => show Calls Tryd.prog 22 #[.pointer (some ⟨g, 0, none⟩)] w _ from now_calls h HS)
    try unfold tkA at HNW
    obtain ⟨t, ht⟩ : ∃ t, t = nowP s := ⟨_, rfl⟩
    rw [← ht] at HNW
    clear h33
    have HNOW := Aside0.mk ht
    clear ht
    obtain ⟨rfl, rfl⟩ := pair_inj hp
    clear hb hd h hp
    go_enter_defers Tryd.func92, Tryd.ntmps92
    go_upto_region 1 with (first | ((with_reducible refine gate_dst (N := 1) rfl ?_); go_must (refine ev_box HS rfl (N := 1) rfl (cs := #[.pointer (some ⟨g, 0, none⟩)]) (t := 66) ?hrun ?_); (case hrun => first | (go_simp; done) | (go_simp; rfl)); clear HS; intro g1 w HS; replace HS := rot3 HS) | ((with_reducible refine gate_dst (N := 2) rfl ?_); go_must (refine ev_box HS rfl (N := 2) rfl (cs := #[.int .i64 0, .int .i64 0, .int .i64 0, .int .i64 0, .string ⟨#[]⟩, .int .i64 0, .slice none 0 0]) (t := 51) ?hrun ?_); (case hrun => first | (go_simp; done) | (go_simp; rfl)); clear HS; intro g2 w HS; replace HS := rot3 HS))
    have cb0 := HS.cell 3 rfl
    go_upto_region 2 with (first | ((try (refine gate_guard (by rfl) ?_; dsimp only)); go_at_call 22; (first | (with_reducible refine (HNW.out _ _ HS).mono ?_)); rintro e_ w_ ⟨rfl, HS_⟩; clear HS; have HS := HS_; clear HS_) | ((with_reducible refine gate_dst (N := 3) rfl ?_); go_must (refine ev_box HS rfl (N := 3) rfl (cs := #[.int .i64 0, .int .i64 0]) (t := 32) ?hrun ?_); (case hrun => first | (go_simp; done) | (go_simp; rfl)); clear HS; intro g3 w HS; replace HS := rot3 HS) | ((with_reducible refine gate_store (t := 32) (p := 3) rfl ?_); go_must (refine ev_store HS 2 rfl rfl 32 (.tmp 3) (.tmp 8) rfl rfl rfl [.int .i64 t.f3.f0, .int .i64 t.f3.f1] ?hx (by kernel_rfl) (by rfl) ?h1 ?_); (case hx => first | rfl | (go_simp; done)); (case h1 => simp [Value.oneCell']); clear HS; intro w HS))
    clear cb0
    have cb0 := HS.cell 4 rfl
    go_upto_region 4 with (first | ((try (refine gate_guard (by rfl) ?_; dsimp only)); go_at_call 21; (first | (with_reducible refine (HBD.out _ _ HS).mono ?_)); rintro e_ w_ ⟨rfl, HS_⟩; clear HS; have HS := HS_; clear HS_))
    clear cb0
    have cb0 := HS.cell 4 rfl
    go_upto_region 5 with (first | ((try (refine gate_guard (by rfl) ?_; dsimp only)); go_at_call 43; (first | (with_reducible refine (HI1.out _ _ HS).mono ?_)); rintro e_ w_ ⟨rfl, HS_⟩; clear HS; have HS := HS_; clear HS_; clear cb0; have cb0 := HS.cell 4 rfl))
    clear cb0
    have cb0 := HS.cell 4 rfl
    go_wp2_with (first | ((try (refine gate_guard (by rfl) ?_; dsimp only)); go_at_call 60; (first | (with_reducible refine (HDN.out _ _ HS).mono ?_)); rintro e_ w_ ⟨rfl, HS_⟩; clear HS; have HS := HS_; clear HS_) | ((with_reducible refine gate_store (t := 51) (p := 2) rfl ?_); go_must (refine ev_store HS 3 rfl rfl 51 (.tmp 2) (.tmp 23) rfl rfl rfl [.int .i64 0, .int .i64 0, .int .i64 0, .int .i64 0, .string ⟨#[]⟩, .int .i64 0, .slice none 0 0] ?hx (by kernel_rfl) (by rfl) ?h1 ?_); (case hx => first | rfl | (go_simp; done)); (case h1 => simp [Value.oneCell']); clear HS; intro w HS))
    refine ⟨_, results_cell_row (p := 2) rfl _ w g2 51 _ (0, 0) _ rfl (HS.blk 3 rfl) Tryd.underlying51 rfl (by kernel_rfl), ?_⟩
    replace HS := HS.erase 2
    replace HS := HS.erase 2
    replace HS := HS.erase 2
    exact ⟨none, 0, 0, rfl, ex_none z51 rfl HS⟩
  ·
    have HI1 := Aside0.mk (fun (w : World) (L : List Chunk) (HS : Sat W0 w (psB g A0 c0 all.length s :: tkR A0 c0 all :: L)) => show Calls Tryd.prog 43 #[.pointer (some ⟨g, 0, none⟩), .string ⟨#[33]⟩] w _ from is_at h h33 HS)
    have HI2 := Aside0.mk (fun (w : World) (L : List Chunk) (HS : Sat W0 w (psB g A0 c0 all.length s :: tkR A0 c0 all :: L)) => show Calls Tryd.prog 43 #[.pointer (some ⟨g, 0, none⟩), .string ⟨#[45]⟩] w _ from is_at h h45 HS)
    have HBD := Aside0.mk (fun (w : World) (L : List Chunk) (HS : Sat W0 w (psB g A0 c0 all.length s :: tkR A0 c0 all :: L)) => bad_at hb HS)
    have HDN := Aside0.mk (fun (w : World) (L : List Chunk) (HS : Sat W0 w (psB g A0 c0 all.length s :: tkR A0 c0 all :: L)) => down_at h hd HS)
    have HNW := Aside0.mk (fun (w : World) (L : List Chunk) (HS : Sat W0 w (psB g A0 c0 all.length s :: tkR A0 c0 all :: L)) => show Calls Tryd.prog 22 #[.pointer (some ⟨g, 0, none⟩)] w _ from now_calls h HS)
    try unfold tkA at HNW
    obtain ⟨t, ht⟩ : ∃ t, t = nowP s := ⟨_, rfl⟩
    rw [← ht] at HNW
    clear h33 h45
    have HNOW := Aside0.mk ht
    clear ht
    obtain ⟨rfl, rfl⟩ := pair_inj hp
    clear hb hd h hp
    go_enter_defers Tryd.func92, Tryd.ntmps92
    go_upto_region 1 with (first | ((with_reducible refine gate_dst (N := 1) rfl ?_); go_must (refine ev_box HS rfl (N := 1) rfl (cs := #[.pointer (some ⟨g, 0, none⟩)]) (t := 66) ?hrun ?_); (case hrun => first | (go_simp; done) | (go_simp; rfl)); clear HS; intro g1 w HS; replace HS := rot3 HS) | ((with_reducible refine gate_dst (N := 2) rfl ?_); go_must (refine ev_box HS rfl (N := 2) rfl (cs := #[.int .i64 0, .int .i64 0, .int .i64 0, .int .i64 0, .string ⟨#[]⟩, .int .i64 0, .slice none 0 0]) (t := 51) ?hrun ?_); (case hrun => first | (go_simp; done) | (go_simp; rfl)); clear HS; intro g2 w HS; replace HS := rot3 HS))
    have cb0 := HS.cell 3 rfl
    go_upto_region 2 with (first | ((try (refine gate_guard (by rfl) ?_; dsimp only)); go_at_call 22; (first | (with_reducible refine (HNW.out _ _ HS).mono ?_)); rintro e_ w_ ⟨rfl, HS_⟩; clear HS; have HS := HS_; clear HS_) | ((with_reducible refine gate_dst (N := 3) rfl ?_); go_must (refine ev_box HS rfl (N := 3) rfl (cs := #[.int .i64 0, .int .i64 0]) (t := 32) ?hrun ?_); (case hrun => first | (go_simp; done) | (go_simp; rfl)); clear HS; intro g3 w HS; replace HS := rot3 HS) | ((with_reducible refine gate_store (t := 32) (p := 3) rfl ?_); go_must (refine ev_store HS 2 rfl rfl 32 (.tmp 3) (.tmp 8) rfl rfl rfl [.int .i64 t.f3.f0, .int .i64 t.f3.f1] ?hx (by kernel_rfl) (by rfl) ?h1 ?_); (case hx => first | rfl | (go_simp; done)); (case h1 => simp [Value.oneCell']); clear HS; intro w HS))
    clear cb0
    have cb0 := HS.cell 4 rfl
    go_upto_region 4 with (first | ((try (refine gate_guard (by rfl) ?_; dsimp only)); go_at_call 21; (first | (with_reducible refine (HBD.out _ _ HS).mono ?_)); rintro e_ w_ ⟨rfl, HS_⟩; clear HS; have HS := HS_; clear HS_))
    clear cb0
    have cb0 := HS.cell 4 rfl
    go_upto_region 5 with (first | ((try (refine gate_guard (by rfl) ?_; dsimp only)); go_at_call 43; (first | (with_reducible refine (HI1.out _ _ HS).mono ?_) | (with_reducible refine (HI2.out _ _ HS).mono ?_)); rintro e_ w_ ⟨rfl, HS_⟩; clear HS; have HS := HS_; clear HS_; clear cb0; have cb0 := HS.cell 4 rfl))
    clear cb0
    have cb0 := HS.cell 4 rfl
    go_wp2_with (first | ((try (refine gate_guard (by rfl) ?_; dsimp only)); go_at_call 60; (first | (with_reducible refine (HDN.out _ _ HS).mono ?_)); rintro e_ w_ ⟨rfl, HS_⟩; clear HS; have HS := HS_; clear HS_) | ((with_reducible refine gate_store (t := 51) (p := 2) rfl ?_); go_must (refine ev_store HS 3 rfl rfl 51 (.tmp 2) (.tmp 23) rfl rfl rfl [.int .i64 0, .int .i64 0, .int .i64 0, .int .i64 0, .string ⟨#[]⟩, .int .i64 0, .slice none 0 0] ?hx (by kernel_rfl) (by rfl) ?h1 ?_); (case hx => first | rfl | (go_simp; done)); (case h1 => simp [Value.oneCell']); clear HS; intro w HS))
    refine ⟨_, results_cell_row (p := 2) rfl _ w g2 51 _ (0, 0) _ rfl (HS.blk 3 rfl) Tryd.underlying51 rfl (by kernel_rfl), ?_⟩
    replace HS := HS.erase 2
    replace HS := HS.erase 2
    replace HS := HS.erase 2
    exact ⟨none, 0, 0, rfl, ex_none z51 rfl HS⟩
set_option maxRecDepth 100000 in
set_option maxHeartbeats 8000000 in
theorem unary_yes {all : List TK} {F : Fns} (hF : FKeep all F) (hU : ExC all 92 [] F.unary) {W0 w : World} {L : List Chunk} {g : Nat} {A0 : Addr} {c0 io : Nat} {s : PS} {e : EX} {s' : PS} (hG : GL W0) (hio : L[io]? = some (old W0)) (h : POk all s) (hb : badP s = false)
    (hsg : isP s (bs [33]) = true ∨ isP s (bs [33]) = false ∧ isP s (bs [45]) = true) (hd : (downP s).1 = true) (hp : unaryP F s = some (e, s')) (HS : Sat W0 w (psB g A0 c0 all.length s :: tkR A0 c0 all :: L)) :
    Calls Tryd.prog 92 #[.pointer (some ⟨g, 0, none⟩)] w fun r w' => ∃ (A : Option Addr) (n c : Nat), r = .returned (.agg (exA e (.slice A n c)).toArray) ∧ Sat W0 w' (exV e (.slice A n c) :: psB g A0 c0 all.length s' :: tkR A0 c0 all :: L) := by
  have HOLD := Aside0.mk (show OldIn W0 L from ⟨io, hio⟩)
  have HGL := Aside0.mk hG
  have hmf : ∀ (fn : Fn) (first cap : Array Value) (w : World), (Instr.makeFunc fn first cap).run Tryd.prog w = .ok (.func fn first cap) w := fun _ _ _ _ => rfl
  clear hG hio
  unfold unaryP at hp
  rw [hb, show (isP s (bs [33]) || isP s (bs [45])) = true from by rcases hsg with h1 | ⟨h1, h2⟩ <;> simp [*]] at hp
  simp only [Bool.false_eq_true, if_false, if_true, hd] at hp
  cases he : F.unary (skipP (downP s).2) with
  | none => rw [he] at hp; cases hp
  | some r =>
    obtain ⟨e1, s3⟩ := r
    rw [he] at hp
    have k1 : POk all (upP s3) ∧ POk all s3 := ⟨(Keeps.down_up h hd ((Keeps.skip (.refl h.down)).trans (hF.unary _ _ _ h.down.skip he))).1, (hF.unary _ _ _ h.down.skip he).1⟩
    replace k1 := k1.2
    clear hF
    rcases hsg with h33 | ⟨h33, h45⟩
    ·
      have HI1 := Aside0.mk (fun (w : World) (L : List Chunk) (HS : Sat W0 w (psB g A0 c0 all.length s :: tkR A0 c0 all :: L)) => show Calls Tryd.prog 43 #[.pointer (some ⟨g, 0, none⟩), .string ⟨#[33]⟩] w _ from is_at h h33 HS)
      have HBD := Aside0.mk (fun (w : World) (L : List Chunk) (HS : Sat W0 w (psB g A0 c0 all.length s :: tkR A0 c0 all :: L)) => bad_at hb HS)
      have HDN := Aside0.mk (fun (w : World) (L : List Chunk) (HS : Sat W0 w (psB g A0 c0 all.length s :: tkR A0 c0 all :: L)) => down_at h hd HS)
      have HNW := Aside0.mk (fun (w : World) (L : List Chunk) (HS : Sat W0 w (psB g A0 c0 all.length s :: tkR A0 c0 all :: L)) => show Calls Tryd.prog 22 #[.pointer (some ⟨g, 0, none⟩)] w _ from now_calls h HS)
      try unfold tkA at HNW
      obtain ⟨t, ht⟩ : ∃ t, t = nowP s := ⟨_, rfl⟩
      have HSK := Aside0.mk (fun (w : World) (L : List Chunk) (HS : Sat W0 w (psB g A0 c0 all.length (downP s).2 :: tkR A0 c0 all :: L)) => show Calls Tryd.prog 44 #[.pointer (some ⟨g, 0, none⟩)] w _ from skip_callsP h.down HS)
      try unfold tkA at HSK
      have HUN := Aside0.mk (fun (w : World) (M : List Chunk) (hM : OldIn W0 M) (HS : Sat W0 w (psB g A0 c0 all.length (skipP (downP s).2) :: tkR A0 c0 all :: M)) => ex_d hU W0 w M g A0 c0 (skipP (downP s).2) e1 s3 HGL.out hM h.down.skip he HS)
      have HUP := Aside0.mk (fun (w : World) (gb : Nat) (L : List Chunk) (HS : Sat W0 w (psB g A0 c0 all.length s3 :: blk gb 66 #[.pointer (some ⟨g, 0, none⟩)] :: L)) => upu_d (u := .returning) k1.d0 k1.d1 HS)
      rw [now_down, ← ht] at HSK hp
      have hq : (t.f1.toList == [33]) = true := by rw [ba_list, ht, is_text h33]; rfl
      rw [← ba_list, hq] at hp
      have e33 : (⟨#[33]⟩ : ByteArray).toList = [33] := show (bs [33]).toList = [33] by simp [bs]
      rw [← ht] at HNW
      clear h33
      have HNOW := Aside0.mk ht
      clear ht
      obtain ⟨rfl, rfl⟩ := pair_inj hp
      clear hb hd he k1 h hp
      go_enter_defers Tryd.func92, Tryd.ntmps92
      go_upto_region 1 with (first | ((with_reducible refine gate_dst (N := 1) rfl ?_); go_must (refine ev_box HS rfl (N := 1) rfl (cs := #[.pointer (some ⟨g, 0, none⟩)]) (t := 66) ?hrun ?_); (case hrun => first | (go_simp; done) | (go_simp; rfl)); clear HS; intro g1 w HS; replace HS := rot3 HS) | ((with_reducible refine gate_dst (N := 2) rfl ?_); go_must (refine ev_box HS rfl (N := 2) rfl (cs := #[.int .i64 0, .int .i64 0, .int .i64 0, .int .i64 0, .string ⟨#[]⟩, .int .i64 0, .slice none 0 0]) (t := 51) ?hrun ?_); (case hrun => first | (go_simp; done) | (go_simp; rfl)); clear HS; intro g2 w HS; replace HS := rot3 HS))
      have cb0 := HS.cell 3 rfl
      go_upto_region 2 with (first | ((try (refine gate_guard (by rfl) ?_; dsimp only)); go_at_call 22; (first | (with_reducible refine (HNW.out _ _ HS).mono ?_)); rintro e_ w_ ⟨rfl, HS_⟩; clear HS; have HS := HS_; clear HS_) | ((with_reducible refine gate_dst (N := 3) rfl ?_); go_must (refine ev_box HS rfl (N := 3) rfl (cs := #[.int .i64 0, .int .i64 0]) (t := 32) ?hrun ?_); (case hrun => first | (go_simp; done) | (go_simp; rfl)); clear HS; intro g3 w HS; replace HS := rot3 HS) | ((with_reducible refine gate_store (t := 32) (p := 3) rfl ?_); go_must (refine ev_store HS 2 rfl rfl 32 (.tmp 3) (.tmp 8) rfl rfl rfl [.int .i64 t.f3.f0, .int .i64 t.f3.f1] ?hx (by kernel_rfl) (by rfl) ?h1 ?_); (case hx => first | rfl | (go_simp; done)); (case h1 => simp [Value.oneCell']); clear HS; intro w HS))
      clear cb0
      have cb0 := HS.cell 4 rfl
      go_upto_region 4 with (first | ((try (refine gate_guard (by rfl) ?_; dsimp only)); go_at_call 21; (first | (with_reducible refine (HBD.out _ _ HS).mono ?_)); rintro e_ w_ ⟨rfl, HS_⟩; clear HS; have HS := HS_; clear HS_))
      clear cb0
      have cb0 := HS.cell 4 rfl
      go_upto_region 5 with (first | ((try (refine gate_guard (by rfl) ?_; dsimp only)); go_at_call 43; (first | (with_reducible refine (HI1.out _ _ HS).mono ?_)); rintro e_ w_ ⟨rfl, HS_⟩; clear HS; have HS := HS_; clear HS_; clear cb0; have cb0 := HS.cell 4 rfl))
      clear cb0
      have cb0 := HS.cell 4 rfl
      go_upto_region 7 with (first | ((try (refine gate_guard (by rfl) ?_; dsimp only)); go_at_call 60; (first | (with_reducible refine (HDN.out _ _ HS).mono ?_)); rintro e_ w_ ⟨rfl, HS_⟩; clear HS; have HS := HS_; clear HS_))
      go_upto_region 8 with (fail)
      clear cb0
      have cb0 := HS.cell 4 rfl
      go_upto_region 9 with (first | ((try (refine gate_guard (by rfl) ?_; dsimp only)); go_at_call 44; (first | (with_reducible refine (HSK.out _ _ HS).mono ?_)); rintro e_ w_ ⟨rfl, HS_⟩; clear HS; have HS := HS_; clear HS_))
      clear cb0
      have cb0 := HS.cell 4 rfl
      go_upto_region 10 with (first | ((try (refine gate_guard (by rfl) ?_; dsimp only)); go_at_call 92; refine (HUN.out _ _ (by repeat (first | exact HOLD.out | apply OldIn.cons)) HS).mono ?_; rintro e_ w_ ⟨vA, vn, vc, rfl, HS_⟩; clear HS; have HS := HS_; clear HS_; replace HS := rot3 HS) | ((with_reducible refine gate_dst (N := 5) rfl ?_); go_must (refine ev_box HS rfl (N := 5) rfl (cs := #[.int .i64 0, .int .i64 0, .int .i64 0, .int .i64 0, .string ⟨#[]⟩, .int .i64 0, .slice none 0 0]) (t := 51) ?hrun ?_); (case hrun => first | (go_simp; done) | (go_simp; rfl)); clear HS; intro g5 w HS; replace HS := rot3 HS) | ((with_reducible refine gate_store (t := 51) (p := 5) rfl ?_); go_must (refine ev_store HS 2 rfl rfl 51 (.tmp 5) (.tmp 30) rfl rfl rfl (exA e1 (.slice vA vn vc)) ?hx (by kernel_rfl) (by rfl) ?h1 ?_); (case hx => first | rfl | (go_simp; done)); (case h1 => simp [Value.oneCell']); clear HS; intro w HS))
      clear cb0
      go_wp2_with (first | ((with_reducible refine gate_dst (N := 32) rfl ?_); (with_reducible refine gate_load (ty := 32) (p := 3) rfl ?_); (try (refine gate_guard (by rfl) ?_; dsimp only)); go_must (refine ev_load HS 4 rfl rfl 32 (.tmp 3) rfl (N := 32) rfl rfl _ Tryd.underlying32 rfl (by kernel_rfl) ?_)) | ((with_reducible refine gate_dst (N := 33) rfl ?_); (with_reducible refine gate_load (ty := 51) (p := 5) rfl ?_); (try (refine gate_guard (by rfl) ?_; dsimp only)); go_must (refine ev_load HS 2 rfl rfl 51 (.tmp 5) rfl (N := 33) rfl rfl _ Tryd.underlying51 rfl (by kernel_rfl) ?_)) | ((with_reducible refine gate_dst (N := 34) rfl ?_); go_must (refine ev_litb HS rfl (N := 34) rfl (cs := ((exA e1 (.slice vA vn vc))).toArray) (e := 51) (n := 1) ?hrun ?_); (case hrun => first | (go_simp; done) | (go_simp; rfl)); clear HS; intro g34 w HS; replace HS := rot3 HS) | ((with_reducible refine gate_store (t := 51) (p := 2) rfl ?_); go_must (refine ev_store HS 6 rfl rfl 51 (.tmp 2) (.tmp 35) rfl rfl rfl [.int .i64 9, .int .i64 t.f3.f0, .int .i64 t.f3.f1, .int .i64 0, .string ⟨#[]⟩, .int .i64 0, .slice (some ⟨g34, 0, none⟩) 1 1] ?hx (by kernel_rfl) (by rfl) ?h1 ?_); (case hx => first | rfl | (go_simp; done)); (case h1 => simp [Value.oneCell']); clear HS; intro w HS))
      refine leaves_cons (f := 95) (args := #[.pointer (some ⟨g1, 0, none⟩)]) (by simp) (by simp [go_sem]) ?_
      refine (HUP.out _ _ _ ((HS.front 7 rfl).swap)).mono ?_
      rintro e_ u' w ⟨rfl, rfl, HS_⟩
      clear HS
      have HS := HS_
      clear HS_
      refine ⟨_, results_cell_row (p := 2) rfl _ w g2 51 _ (0, 0) _ rfl (HS.blk 7 rfl) Tryd.underlying51 rfl (by kernel_rfl), ?_⟩
      replace HS := HS.erase 1
      replace HS := HS.erase 3
      replace HS := HS.erase 4
      replace HS := HS.erase 4
      exact ⟨some ⟨g34, 0, none⟩, 1, 1, rfl, ex_of_row ⟨9, t.f3, 0, bs [], 0, [e1]⟩ (row_one e1 (rot4 HS))⟩
    ·
      have HI1 := Aside0.mk (fun (w : World) (L : List Chunk) (HS : Sat W0 w (psB g A0 c0 all.length s :: tkR A0 c0 all :: L)) => show Calls Tryd.prog 43 #[.pointer (some ⟨g, 0, none⟩), .string ⟨#[33]⟩] w _ from is_at h h33 HS)
      have HI2 := Aside0.mk (fun (w : World) (L : List Chunk) (HS : Sat W0 w (psB g A0 c0 all.length s :: tkR A0 c0 all :: L)) => show Calls Tryd.prog 43 #[.pointer (some ⟨g, 0, none⟩), .string ⟨#[45]⟩] w _ from is_at h h45 HS)
      have HBD := Aside0.mk (fun (w : World) (L : List Chunk) (HS : Sat W0 w (psB g A0 c0 all.length s :: tkR A0 c0 all :: L)) => bad_at hb HS)
      have HDN := Aside0.mk (fun (w : World) (L : List Chunk) (HS : Sat W0 w (psB g A0 c0 all.length s :: tkR A0 c0 all :: L)) => down_at h hd HS)
      have HNW := Aside0.mk (fun (w : World) (L : List Chunk) (HS : Sat W0 w (psB g A0 c0 all.length s :: tkR A0 c0 all :: L)) => show Calls Tryd.prog 22 #[.pointer (some ⟨g, 0, none⟩)] w _ from now_calls h HS)
      try unfold tkA at HNW
      obtain ⟨t, ht⟩ : ∃ t, t = nowP s := ⟨_, rfl⟩
      have HSK := Aside0.mk (fun (w : World) (L : List Chunk) (HS : Sat W0 w (psB g A0 c0 all.length (downP s).2 :: tkR A0 c0 all :: L)) => show Calls Tryd.prog 44 #[.pointer (some ⟨g, 0, none⟩)] w _ from skip_callsP h.down HS)
      try unfold tkA at HSK
      have HUN := Aside0.mk (fun (w : World) (M : List Chunk) (hM : OldIn W0 M) (HS : Sat W0 w (psB g A0 c0 all.length (skipP (downP s).2) :: tkR A0 c0 all :: M)) => ex_d hU W0 w M g A0 c0 (skipP (downP s).2) e1 s3 HGL.out hM h.down.skip he HS)
      have HUP := Aside0.mk (fun (w : World) (gb : Nat) (L : List Chunk) (HS : Sat W0 w (psB g A0 c0 all.length s3 :: blk gb 66 #[.pointer (some ⟨g, 0, none⟩)] :: L)) => upu_d (u := .returning) k1.d0 k1.d1 HS)
      rw [now_down, ← ht] at HSK hp
      have hq : (t.f1.toList == [33]) = false := by rw [ba_list, ht, is_text h45]; rfl
      rw [← ba_list, hq] at hp
      have e33 : (⟨#[33]⟩ : ByteArray).toList = [33] := show (bs [33]).toList = [33] by simp [bs]
      rw [← ht] at HNW
      clear h33 h45
      have HNOW := Aside0.mk ht
      clear ht
      obtain ⟨rfl, rfl⟩ := pair_inj hp
      clear hb hd he k1 h hp
      go_enter_defers Tryd.func92, Tryd.ntmps92
      go_upto_region 1 with (first | ((with_reducible refine gate_dst (N := 1) rfl ?_); go_must (refine ev_box HS rfl (N := 1) rfl (cs := #[.pointer (some ⟨g, 0, none⟩)]) (t := 66) ?hrun ?_); (case hrun => first | (go_simp; done) | (go_simp; rfl)); clear HS; intro g1 w HS; replace HS := rot3 HS) | ((with_reducible refine gate_dst (N := 2) rfl ?_); go_must (refine ev_box HS rfl (N := 2) rfl (cs := #[.int .i64 0, .int .i64 0, .int .i64 0, .int .i64 0, .string ⟨#[]⟩, .int .i64 0, .slice none 0 0]) (t := 51) ?hrun ?_); (case hrun => first | (go_simp; done) | (go_simp; rfl)); clear HS; intro g2 w HS; replace HS := rot3 HS))
      have cb0 := HS.cell 3 rfl
      go_upto_region 2 with (first | ((try (refine gate_guard (by rfl) ?_; dsimp only)); go_at_call 22; (first | (with_reducible refine (HNW.out _ _ HS).mono ?_)); rintro e_ w_ ⟨rfl, HS_⟩; clear HS; have HS := HS_; clear HS_) | ((with_reducible refine gate_dst (N := 3) rfl ?_); go_must (refine ev_box HS rfl (N := 3) rfl (cs := #[.int .i64 0, .int .i64 0]) (t := 32) ?hrun ?_); (case hrun => first | (go_simp; done) | (go_simp; rfl)); clear HS; intro g3 w HS; replace HS := rot3 HS) | ((with_reducible refine gate_store (t := 32) (p := 3) rfl ?_); go_must (refine ev_store HS 2 rfl rfl 32 (.tmp 3) (.tmp 8) rfl rfl rfl [.int .i64 t.f3.f0, .int .i64 t.f3.f1] ?hx (by kernel_rfl) (by rfl) ?h1 ?_); (case hx => first | rfl | (go_simp; done)); (case h1 => simp [Value.oneCell']); clear HS; intro w HS))
      clear cb0
      have cb0 := HS.cell 4 rfl
      go_upto_region 4 with (first | ((try (refine gate_guard (by rfl) ?_; dsimp only)); go_at_call 21; (first | (with_reducible refine (HBD.out _ _ HS).mono ?_)); rintro e_ w_ ⟨rfl, HS_⟩; clear HS; have HS := HS_; clear HS_))
      clear cb0
      have cb0 := HS.cell 4 rfl
      go_upto_region 5 with (first | ((try (refine gate_guard (by rfl) ?_; dsimp only)); go_at_call 43; (first | (with_reducible refine (HI1.out _ _ HS).mono ?_) | (with_reducible refine (HI2.out _ _ HS).mono ?_)); rintro e_ w_ ⟨rfl, HS_⟩; clear HS; have HS := HS_; clear HS_; clear cb0; have cb0 := HS.cell 4 rfl))
      clear cb0
      have cb0 := HS.cell 4 rfl
      go_upto_region 7 with (first | ((try (refine gate_guard (by rfl) ?_; dsimp only)); go_at_call 60; (first | (with_reducible refine (HDN.out _ _ HS).mono ?_)); rintro e_ w_ ⟨rfl, HS_⟩; clear HS; have HS := HS_; clear HS_))
      go_upto_region 8 with (fail)
      clear cb0
      have cb0 := HS.cell 4 rfl
      go_upto_region 9 with (first | ((try (refine gate_guard (by rfl) ?_; dsimp only)); go_at_call 44; (first | (with_reducible refine (HSK.out _ _ HS).mono ?_)); rintro e_ w_ ⟨rfl, HS_⟩; clear HS; have HS := HS_; clear HS_))
      clear cb0
      have cb0 := HS.cell 4 rfl
      go_upto_region 10 with (first | ((try (refine gate_guard (by rfl) ?_; dsimp only)); go_at_call 92; refine (HUN.out _ _ (by repeat (first | exact HOLD.out | apply OldIn.cons)) HS).mono ?_; rintro e_ w_ ⟨vA, vn, vc, rfl, HS_⟩; clear HS; have HS := HS_; clear HS_; replace HS := rot3 HS) | ((with_reducible refine gate_dst (N := 5) rfl ?_); go_must (refine ev_box HS rfl (N := 5) rfl (cs := #[.int .i64 0, .int .i64 0, .int .i64 0, .int .i64 0, .string ⟨#[]⟩, .int .i64 0, .slice none 0 0]) (t := 51) ?hrun ?_); (case hrun => first | (go_simp; done) | (go_simp; rfl)); clear HS; intro g5 w HS; replace HS := rot3 HS) | ((with_reducible refine gate_store (t := 51) (p := 5) rfl ?_); go_must (refine ev_store HS 2 rfl rfl 51 (.tmp 5) (.tmp 30) rfl rfl rfl (exA e1 (.slice vA vn vc)) ?hx (by kernel_rfl) (by rfl) ?h1 ?_); (case hx => first | rfl | (go_simp; done)); (case h1 => simp [Value.oneCell']); clear HS; intro w HS))
      clear cb0
      go_wp2_with (first | ((with_reducible refine gate_dst (N := 36) rfl ?_); (with_reducible refine gate_load (ty := 32) (p := 3) rfl ?_); (try (refine gate_guard (by rfl) ?_; dsimp only)); go_must (refine ev_load HS 4 rfl rfl 32 (.tmp 3) rfl (N := 36) rfl rfl _ Tryd.underlying32 rfl (by kernel_rfl) ?_)) | ((with_reducible refine gate_dst (N := 37) rfl ?_); (with_reducible refine gate_load (ty := 32) (p := 3) rfl ?_); (try (refine gate_guard (by rfl) ?_; dsimp only)); go_must (refine ev_load HS 4 rfl rfl 32 (.tmp 3) rfl (N := 37) rfl rfl _ Tryd.underlying32 rfl (by kernel_rfl) ?_)) | ((with_reducible refine gate_dst (N := 39) rfl ?_); (with_reducible refine gate_load (ty := 51) (p := 5) rfl ?_); (try (refine gate_guard (by rfl) ?_; dsimp only)); go_must (refine ev_load HS 2 rfl rfl 51 (.tmp 5) rfl (N := 39) rfl rfl _ Tryd.underlying51 rfl (by kernel_rfl) ?_)) | ((with_reducible refine gate_dst (N := 40) rfl ?_); go_must (refine ev_litb HS rfl (N := 40) rfl (cs := ((exA ⟨1, t.f3, 0, bs [], 0, []⟩ (.slice none 0 0) ++ exA e1 (.slice vA vn vc))).toArray) (e := 51) (n := 2) ?hrun ?_); (case hrun => first | (go_simp; done) | (go_simp; rfl)); clear HS; intro g40 w HS; replace HS := rot3 HS) | ((with_reducible refine gate_store (t := 51) (p := 2) rfl ?_); go_must (refine ev_store HS 6 rfl rfl 51 (.tmp 2) (.tmp 41) rfl rfl rfl [.int .i64 6, .int .i64 t.f3.f0, .int .i64 t.f3.f1, .int .i64 0, .string ⟨#[]⟩, .int .i64 2, .slice (some ⟨g40, 0, none⟩) 2 2] ?hx (by kernel_rfl) (by rfl) ?h1 ?_); (case hx => first | rfl | (go_simp; done)); (case h1 => simp [Value.oneCell']); clear HS; intro w HS))
      refine leaves_cons (f := 95) (args := #[.pointer (some ⟨g1, 0, none⟩)]) (by simp) (by simp [go_sem]) ?_
      refine (HUP.out _ _ _ ((HS.front 7 rfl).swap)).mono ?_
      rintro e_ u' w ⟨rfl, rfl, HS_⟩
      clear HS
      have HS := HS_
      clear HS_
      refine ⟨_, results_cell_row (p := 2) rfl _ w g2 51 _ (0, 0) _ rfl (HS.blk 7 rfl) Tryd.underlying51 rfl (by kernel_rfl), ?_⟩
      replace HS := HS.erase 1
      replace HS := HS.erase 3
      replace HS := HS.erase 4
      replace HS := HS.erase 4
      have HS := ex_none ⟨1, t.f3, 0, bs [], 0, []⟩ rfl (rot4 HS)
      exact ⟨some ⟨g40, 0, none⟩, 2, 2, rfl, ex_of_row ⟨6, t.f3, 0, bs [], 2, [⟨1, t.f3, 0, bs [], 0, []⟩, e1]⟩ (row_two ⟨1, t.f3, 0, bs [], 0, []⟩ e1 (HS.swap))⟩
set_option maxRecDepth 100000 in
set_option maxHeartbeats 8000000 in
theorem unary_walk {all : List TK} {F : Fns} (hF : FKeep all F) (hU : ExC all 92 [] F.unary) (hP : ∀ p : S32, ExC all 96 [.agg #[.int .i64 p.f0, .int .i64 p.f1]] (primaryP F p)) : ExC all 92 [] (unaryP F) := by
  intro W0 w L g A0 c0 io s e s' hG hio h hp HS
  have hmf : ∀ (fn : Fn) (first cap : Array Value) (w : World), (Instr.makeFunc fn first cap).run Tryd.prog w = .ok (.func fn first cap) w := fun _ _ _ _ => rfl
  have HNW := Aside0.mk (fun (w : World) (L : List Chunk) (HS : Sat W0 w (psB g A0 c0 all.length s :: tkR A0 c0 all :: L)) => now_calls h HS)
  have HBD := Aside0.mk (fun (w : World) (L : List Chunk) (HS : Sat W0 w (psB g A0 c0 all.length s :: L)) => bad_calls HS)
  have hp_ := hp
  unfold unaryP at hp
  obtain ⟨t, ht⟩ : ∃ t, t = nowP s := ⟨_, rfl⟩
  rw [← ht] at HNW hp
  unfold tkA at HNW
  cases hb : badP s with
  | true =>
    rw [hb] at HBD hp
    obtain ⟨rfl, rfl⟩ := pair_inj hp
    clear hp hb ht hp_
    go_enter_defers Tryd.func92, Tryd.ntmps92
    go_upto_region 1 with (first | ((with_reducible refine gate_dst (N := 1) rfl ?_); go_must (refine ev_box HS rfl (N := 1) rfl (cs := #[.pointer (some ⟨g, 0, none⟩)]) (t := 66) ?hrun ?_); (case hrun => first | (go_simp; done) | (go_simp; rfl)); clear HS; intro g1 w HS) | ((with_reducible refine gate_dst (N := 2) rfl ?_); go_must (refine ev_box HS rfl (N := 2) rfl (cs := #[.int .i64 0, .int .i64 0, .int .i64 0, .int .i64 0, .string ⟨#[]⟩, .int .i64 0, .slice none 0 0]) (t := 51) ?hrun ?_); (case hrun => first | (go_simp; done) | (go_simp; rfl)); clear HS; intro g2 w HS))
    replace HS := rot4 HS
    have cb := HS.cell 3 rfl
    go_upto_region 2 with (first | (go_at_call 22; refine (HNW.out _ _ HS).mono ?_; rintro e_ w_ ⟨rfl, HS_⟩; clear HS; have HS := HS_; clear HS_) | ((with_reducible refine gate_dst (N := 3) rfl ?_); go_must (refine ev_box HS rfl (N := 3) rfl (cs := #[.int .i64 0, .int .i64 0]) (t := 32) ?hrun ?_); (case hrun => first | (go_simp; done) | (go_simp; rfl)); clear HS; intro g3 w HS) | ((with_reducible refine gate_store (t := 32) (p := 3) rfl ?_); go_must (refine ev_store HS 0 rfl rfl 32 (.tmp 3) (.tmp 8) rfl rfl rfl [.int .i64 t.f3.f0, .int .i64 t.f3.f1] ?hx (by kernel_rfl) (by rfl) ?h1 ?_); (case hx => first | rfl | (go_simp; done)); (case h1 => simp [Value.oneCell']); clear HS; intro w HS))
    clear cb
    replace HS := HS.front 1 rfl
    have cb := HS.cell 4 rfl
    go_wp2_with (first | (go_at_call 21; refine (HBD.out _ _ HS).mono ?_; rintro e_ w_ ⟨rfl, HS_⟩; clear HS; have HS := HS_; clear HS_) | ((with_reducible refine gate_store (t := 51) (p := 2) rfl ?_); go_must (refine ev_store HS 3 rfl rfl 51 (.tmp 2) (.tmp 12) rfl rfl rfl [.int .i64 0, .int .i64 0, .int .i64 0, .int .i64 0, .string ⟨#[]⟩, .int .i64 0, .slice none 0 0] ?hx (by kernel_rfl) (by rfl) ?h1 ?_); (case hx => first | rfl | (go_simp; done)); (case h1 => simp [Value.oneCell']); clear HS; intro w HS))
    refine ⟨_, results_cell_row (p := 2) rfl _ w g2 51 _ (0, 0) _ rfl (HS.blk 3 rfl) Tryd.underlying51 rfl (by kernel_rfl), ?_⟩
    refine ⟨none, 0, 0, rfl, ?_⟩
    exact ex_none z51 rfl (((HS.erase 1).erase 2).erase 2)
  | false =>
    rw [hb] at HBD hp
    simp only [Bool.false_eq_true, if_false] at hp
    have HI1 := Aside0.mk (fun (w : World) (L : List Chunk) (HS : Sat W0 w (psB g A0 c0 all.length s :: tkR A0 c0 all :: L)) => show Calls Tryd.prog 43 #[.pointer (some ⟨g, 0, none⟩), .string ⟨#[33]⟩] w _ from is_calls h HS (bs [33]))
    have HI2 := Aside0.mk (fun (w : World) (L : List Chunk) (HS : Sat W0 w (psB g A0 c0 all.length s :: tkR A0 c0 all :: L)) => show Calls Tryd.prog 43 #[.pointer (some ⟨g, 0, none⟩), .string ⟨#[45]⟩] w _ from is_calls h HS (bs [45]))
    have hb0 := Aside0.mk hb
    have hp0 := Aside0.mk hp_
    clear hp_
    clear hb ht
    cases h33 : isP s (bs [33]) with
    | false =>
      cases h45 : isP s (bs [45]) with
      | false =>
        rw [h33] at HI1
        rw [h45] at HI2
        rw [h33, h45] at hp
        have HPR := Aside0.mk (fun (w : World) (c1 c2 c3 : Chunk) (HS : Sat W0 w (psB g A0 c0 all.length s :: tkR A0 c0 all :: c1 :: c2 :: c3 :: L)) => hP t.f3 W0 w (c1 :: c2 :: c3 :: L) g A0 c0 (io + 3) s e s' hG (by simpa using hio) h hp HS)
        clear hp h33 h45
        go_enter_defers Tryd.func92, Tryd.ntmps92
        go_upto_region 1 with (first | ((with_reducible refine gate_dst (N := 1) rfl ?_); go_must (refine ev_box HS rfl (N := 1) rfl (cs := #[.pointer (some ⟨g, 0, none⟩)]) (t := 66) ?hrun ?_); (case hrun => first | (go_simp; done) | (go_simp; rfl)); clear HS; intro g1 w HS) | ((with_reducible refine gate_dst (N := 2) rfl ?_); go_must (refine ev_box HS rfl (N := 2) rfl (cs := #[.int .i64 0, .int .i64 0, .int .i64 0, .int .i64 0, .string ⟨#[]⟩, .int .i64 0, .slice none 0 0]) (t := 51) ?hrun ?_); (case hrun => first | (go_simp; done) | (go_simp; rfl)); clear HS; intro g2 w HS))
        replace HS := rot4 HS
        have cb := HS.cell 3 rfl
        go_upto_region 2 with (first | (go_at_call 22; refine (HNW.out _ _ HS).mono ?_; rintro e_ w_ ⟨rfl, HS_⟩; clear HS; have HS := HS_; clear HS_) | ((with_reducible refine gate_dst (N := 3) rfl ?_); go_must (refine ev_box HS rfl (N := 3) rfl (cs := #[.int .i64 0, .int .i64 0]) (t := 32) ?hrun ?_); (case hrun => first | (go_simp; done) | (go_simp; rfl)); clear HS; intro g3 w HS) | ((with_reducible refine gate_store (t := 32) (p := 3) rfl ?_); go_must (refine ev_store HS 0 rfl rfl 32 (.tmp 3) (.tmp 8) rfl rfl rfl [.int .i64 t.f3.f0, .int .i64 t.f3.f1] ?hx (by kernel_rfl) (by rfl) ?h1 ?_); (case hx => first | rfl | (go_simp; done)); (case h1 => simp [Value.oneCell']); clear HS; intro w HS))
        clear cb
        replace HS := rot3 HS
        have cb := HS.cell 4 rfl
        go_upto_region 4 with (go_at_call 21; refine (HBD.out _ _ HS).mono ?_; rintro e_ w_ ⟨rfl, HS_⟩; clear HS; have HS := HS_; clear HS_)
        clear cb
        have cb := HS.cell 4 rfl
        go_upto_region 13 with (go_at_call 43; (first | (with_reducible refine (HI1.out _ _ HS).mono ?_) | (with_reducible refine (HI2.out _ _ HS).mono ?_)); rintro e_ w_ ⟨rfl, HS_⟩; clear HS; have HS := HS_; clear HS_; clear cb; have cb := HS.cell 4 rfl)
        go_wp2_with (first | ((with_reducible refine gate_dst (N := 43) rfl ?_); ((with_reducible refine gate_load (ty := 32) (p := 3) rfl ?_); go_must (refine ev_load HS 2 rfl rfl 32 (.tmp 3) rfl (N := 43) rfl rfl _ Tryd.underlying32 rfl (by kernel_rfl) ?_))) | (go_at_call 96; refine (HPR.out _ _ _ _ HS).mono ?_; rintro e_ w_ ⟨vA, vn, vc, rfl, HS_⟩; clear HS; have HS := HS_; clear HS_) | ((with_reducible refine gate_store (t := 51) (p := 2) rfl ?_); go_must (refine ev_store HS 4 rfl rfl 51 (.tmp 2) (.tmp 44) rfl rfl rfl (exA e (.slice vA vn vc)) ?hx (by kernel_rfl) (by rfl) ?h1 ?_); (case hx => first | rfl | (go_simp; done)); (case h1 => simp [Value.oneCell']); clear HS; intro w HS))
        refine ⟨_, results_cell_row (p := 2) rfl _ w g2 51 _ (0, 0) _ rfl (HS.blk 4 rfl) Tryd.underlying51 rfl (by kernel_rfl), ?_⟩
        exact ⟨vA, vn, vc, rfl, ((HS.erase 3).erase 3).erase 3⟩
      | true =>
        cases hd : (downP s).1 with
        | false => exact unary_no hF hU hG hio h hb0.out (.inr ⟨h33, h45⟩) hd hp0.out HS
        | true => exact unary_yes hF hU hG hio h hb0.out (.inr ⟨h33, h45⟩) hd hp0.out HS
    | true =>
      cases hd : (downP s).1 with
      | false => exact unary_no hF hU hG hio h hb0.out (.inl h33) hd hp0.out HS
      | true => exact unary_yes hF hU hG hio h hb0.out (.inl h33) hd hp0.out HS
end Go.Proofs.YtenkganofobioaaDoor.B
