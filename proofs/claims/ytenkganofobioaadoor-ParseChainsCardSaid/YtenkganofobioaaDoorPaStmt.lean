/- Parsing: stmt. -/
import Derived.Test.YtenkganofobioaaDoorPaChoice
namespace Go.Proofs.YtenkganofobioaaDoor.B
open Go.RowKit Go.Proofs.YtenkganofobioaaDoor.Mine Go.Proofs.YtenkganofobioaaDoor.Sep Go.Proofs.YtenkganofobioaaDoorW.PrintWords Go.Proofs.YtenkganofobioaaDoorW.PrintLast Go.Proofs.YtenkganofobioaaDoorW.PrintMore
set_option linter.unusedVariables false
set_option linter.unusedSimpArgs false
attribute [local go_sem] Instr.field asAgg
set_option maxRecDepth 100000 in
set_option maxHeartbeats 8000000 in
theorem stmt_walk {all : List TK} {F : Fns} (hF : FKeep all F) (hW : ExC all 73 [] F.whole) (hB : BlD all 47 [] F.block) (hC : StE all 74 F.choice) (hT : StE all 75 (turnP F)) : StD all 62 (stmtP F) := by
  intro W0 w L g A0 c0 s e s' hG ho h hp HS
  have HOLD := Aside0.mk ho
  have HGL := Aside0.mk hG
  clear hG ho
  unfold stmtP at hp
  simp only at hp
  have HNW := Aside0.mk (fun (w : World) (L : List Chunk) (HS : Sat W0 w (psB g A0 c0 all.length s :: tkR A0 c0 all :: L)) => show Calls Tryd.prog 22 #[.pointer (some ⟨g, 0, none⟩)] w _ from now_calls h HS)
  try unfold tkA at HNW
  obtain ⟨t, ht⟩ : ∃ t, t = nowP s := ⟨_, rfl⟩
  rw [← ht] at HNW hp
  clear ht
  cases ht : (takeP s (bs [108, 101, 116])).1 with
  | true =>
    rw [if_pos ht] at hp
    obtain ⟨s1, hs_⟩ : ∃ x, x = (takeP s (bs [108, 101, 116])).2 := ⟨_, rfl⟩
    have HT1 := Aside0.mk (fun (w : World) (L : List Chunk) (HS : Sat W0 w (psB g A0 c0 all.length s :: tkR A0 c0 all :: L)) => show Calls Tryd.prog 23 #[.pointer (some ⟨g, 0, none⟩), .string ⟨#[108, 101, 116]⟩] w fun r w' => r = .returned (.bool true) ∧ Sat W0 w' (psB g A0 c0 all.length (takeP s (bs [108, 101, 116])).2 :: tkR A0 c0 all :: L) from take_at h ht HS)
    have h1 := h.take (bs [108, 101, 116])
    rw [← hs_] at HT1 h1 hp
    clear hs_
    have HNM := Aside0.mk (fun (w : World) (L : List Chunk) (HS : Sat W0 w (psB g A0 c0 all.length s1 :: tkR A0 c0 all :: L)) => name_callsP h1 HS)
    have h2 := h1.name
    obtain ⟨nm, hnm⟩ : ∃ x, x = (nameP s1).1 := ⟨_, rfl⟩
    obtain ⟨s2, hs2⟩ : ∃ x, x = (nameP s1).2 := ⟨_, rfl⟩
    rw [← hnm, ← hs2] at hp HNM
    rw [← hs2] at h2
    clear hs2 hnm h1
    have HW1 := Aside0.mk (fun (w : World) (L : List Chunk) (HS : Sat W0 w (psB g A0 c0 all.length s2 :: tkR A0 c0 all :: L)) => show Calls Tryd.prog 46 #[.pointer (some ⟨g, 0, none⟩), .string ⟨#[61]⟩] w fun r w' => r = .returned (.tuple #[]) ∧ Sat W0 w' (psB g A0 c0 all.length (wantP s2 (bs [61])) :: tkR A0 c0 all :: L) from want_callsP h2 HS (bs [61]))
    have h3 := h2.want (bs [61])
    obtain ⟨s3, hs_⟩ : ∃ x, x = wantP s2 (bs [61]) := ⟨_, rfl⟩
    rw [← hs_] at hp HW1 h3
    clear hs_ h2
    cases he : F.whole s3 with
    | none => rw [he] at hp; cases hp
    | some r_ =>
    obtain ⟨e1, s4⟩ := r_
    rw [he] at hp
    simp only at hp
    unfold semi at hp
    simp only at hp
    obtain ⟨rfl, rfl⟩ := pair_inj hp
    have h4 := (hF.whole _ _ _ h3 he).1
    have HWH := Aside0.mk (fun (w : World) (M : List Chunk) (hM : OldIn W0 M) (HS : Sat W0 w (psB g A0 c0 all.length s3 :: tkR A0 c0 all :: M)) => ex_d hW W0 w M g A0 c0 s3 e1 s4 HGL.out hM h3 he HS)
    have HW2 := Aside0.mk (fun (w : World) (L : List Chunk) (HS : Sat W0 w (psB g A0 c0 all.length s4 :: tkR A0 c0 all :: L)) => show Calls Tryd.prog 46 #[.pointer (some ⟨g, 0, none⟩), .string ⟨#[59]⟩] w fun r w' => r = .returned (.tuple #[]) ∧ Sat W0 w' (psB g A0 c0 all.length (wantP s4 (bs [59])) :: tkR A0 c0 all :: L) from want_callsP h4 HS (bs [59]))
    clear hp he h h3 h4 ht hF hW hB hC hT
    go_enter Tryd.func62, Tryd.ntmps62
    go_upto_region 1 with (first | ((with_reducible refine gate_dst (N := 2) rfl ?_); go_must (refine ev_box HS rfl (N := 2) rfl (cs := #[.int .i64 0, .int .i64 0, .int .i64 0, .string ⟨#[]⟩, .slice none 0 0, .slice none 0 0, .slice none 0 0]) (t := 45) ?hrun ?_); (case hrun => first | (go_simp; done) | (go_simp; rfl)); clear HS; intro g2 w HS; replace HS := rot3 HS))
    go_upto_region 3 with (first | ((try (refine gate_guard (by rfl) ?_; dsimp only)); go_at_call 22; (first | (with_reducible refine (HNW.out _ _ HS).mono ?_)); rintro e_ w_ ⟨rfl, HS_⟩; clear HS; have HS := HS_; clear HS_) | ((with_reducible refine gate_dst (N := 3) rfl ?_); go_must (refine ev_box HS rfl (N := 3) rfl (cs := #[.int .i64 0, .int .i64 0, .int .i64 0, .string ⟨#[]⟩, .slice none 0 0, .slice none 0 0, .slice none 0 0]) (t := 45) ?hrun ?_); (case hrun => first | (go_simp; done) | (go_simp; rfl)); clear HS; intro g3 w HS; replace HS := rot3 HS) | ((with_reducible refine gate_store (t := 45) (p := 3) rfl ?_); go_must (refine ev_store HS 2 rfl rfl 45 (.tmp 3) (.tmp 7) rfl rfl rfl [.int .i64 0, .int .i64 t.f3.f0, .int .i64 t.f3.f1, .string ⟨#[]⟩, .slice none 0 0, .slice none 0 0, .slice none 0 0] ?hx (by kernel_rfl) (by rfl) ?h1 ?_); (case hx => first | rfl | (go_simp; done)); (case h1 => simp [Value.oneCell']); clear HS; intro w HS))
    go_wp2_with (first | ((try (refine gate_guard (by rfl) ?_; dsimp only)); go_at_call 23; (first | (with_reducible refine (HT1.out _ _ HS).mono ?_)); rintro e_ w_ ⟨rfl, HS_⟩; clear HS; have HS := HS_; clear HS_) | ((try (refine gate_guard (by rfl) ?_; dsimp only)); go_at_call 45; (first | (with_reducible refine (HNM.out _ _ HS).mono ?_)); rintro e_ w_ ⟨rfl, HS_⟩; clear HS; have HS := HS_; clear HS_) | ((with_reducible refine gate_store (t := 42) (p := 16) rfl ?_); go_must (refine ev_storeN HS 2 rfl rfl 0 42 (.tmp 16) (.const (.int .i64 1)) rfl rfl rfl (.int .i64 1) ?hv [.int .i64 1] rfl (by kernel_rfl) (by simp) ?h1 #[.int .i64 1, .int .i64 t.f3.f0, .int .i64 t.f3.f1, .string ⟨#[]⟩, .slice none 0 0, .slice none 0 0, .slice none 0 0] rfl ?_); (case hv => first | rfl | (go_simp; done) | (go_simp; rfl)); (case h1 => simp [Value.oneCell']); clear HS; intro w HS) | ((with_reducible refine gate_store (t := 9) (p := 17) rfl ?_); go_must (refine ev_storeN HS 2 rfl rfl 3 9 (.tmp 17) (.tmp 15) rfl rfl rfl (.string nm) ?hv [.string nm] rfl (by kernel_rfl) (by simp) ?h1 #[.int .i64 1, .int .i64 t.f3.f0, .int .i64 t.f3.f1, .string nm, .slice none 0 0, .slice none 0 0, .slice none 0 0] rfl ?_); (case hv => first | rfl | (go_simp; done) | (go_simp; rfl)); (case h1 => simp [Value.oneCell']); clear HS; intro w HS) | ((try (refine gate_guard (by rfl) ?_; dsimp only)); go_at_call 46; (first | (with_reducible refine (HW1.out _ _ HS).mono ?_) | (with_reducible refine (HW2.out _ _ HS).mono ?_)); rintro e_ w_ ⟨rfl, HS_⟩; clear HS; have HS := HS_; clear HS_) | ((try (refine gate_guard (by rfl) ?_; dsimp only)); go_at_call 73; refine (HWH.out _ _ (by repeat (first | exact HOLD.out | apply OldIn.cons)) HS).mono ?_; rintro e_ w_ ⟨eA, en, ec, rfl, HS_⟩; clear HS; have HS := HS_; clear HS_; replace HS := rot3 HS) | ((with_reducible refine gate_dst (N := 22) rfl ?_); go_must (refine ev_litb HS rfl (N := 22) rfl (cs := ((exA e1 (.slice eA en ec))).toArray) (e := 51) (n := 1) ?hrun ?_); (case hrun => first | (go_simp; done) | (go_simp; rfl)); clear HS; intro g22 w HS; replace HS := rot3 HS) | ((with_reducible refine gate_store (t := 43) (p := 23) rfl ?_); go_must (refine ev_storeN HS 4 rfl rfl 4 43 (.tmp 23) (.tmp 22) rfl rfl rfl (.slice (some ⟨g22, 0, none⟩) 1 1) ?hv [.slice (some ⟨g22, 0, none⟩) 1 1] rfl (by kernel_rfl) (by simp) ?h1 #[.int .i64 1, .int .i64 t.f3.f0, .int .i64 t.f3.f1, .string nm, .slice (some ⟨g22, 0, none⟩) 1 1, .slice none 0 0, .slice none 0 0] rfl ?_); (case hv => first | rfl | (go_simp; done) | (go_simp; rfl)); (case h1 => simp [Value.oneCell']); clear HS; intro w HS) | ((with_reducible refine gate_dst (N := 52) rfl ?_); (with_reducible refine gate_load (ty := 45) (p := 3) rfl ?_); (try (refine gate_guard (by rfl) ?_; dsimp only)); go_must (refine ev_load HS 4 rfl rfl 45 (.tmp 3) rfl (N := 52) rfl rfl _ Tryd.underlying45 rfl (by kernel_rfl) ?_)) | ((with_reducible refine gate_store (t := 45) (p := 2) rfl ?_); go_must (refine ev_store HS 5 rfl rfl 45 (.tmp 2) (.tmp 52) rfl rfl rfl [.int .i64 1, .int .i64 t.f3.f0, .int .i64 t.f3.f1, .string nm, .slice (some ⟨g22, 0, none⟩) 1 1, .slice none 0 0, .slice none 0 0] ?hx (by kernel_rfl) (by rfl) ?h1 ?_); (case hx => first | rfl | (go_simp; done)); (case h1 => simp [Value.oneCell']); clear HS; intro w HS))
    refine ret_row HS 5 rfl (p := 2) rfl rfl _ Tryd.underlying45 rfl (by kernel_rfl) rfl ?_
    replace HS := HS.erase 4
    replace HS := HS.erase 4
    replace HS := HS.front 1 rfl
    replace HS := HS.front 1 rfl
    replace HS := HS.front 3 rfl
    replace HS := HS.front 3 rfl
    exact ⟨some ⟨g22, 0, none⟩, none, none, 1, 0, 0, 1, 0, 0, rfl, st_e ⟨1, t.f3, nm, [e1], [], []⟩ rfl rfl (row_one e1 HS)⟩
  | false =>
  rw [if_neg (by rw [ht]; decide)] at hp
  have HT1 := Aside0.mk (fun (w : World) (L : List Chunk) (HS : Sat W0 w (psB g A0 c0 all.length s :: tkR A0 c0 all :: L)) => show Calls Tryd.prog 23 #[.pointer (some ⟨g, 0, none⟩), .string ⟨#[108, 101, 116]⟩] w fun r w' => r = .returned (.bool false) ∧ Sat W0 w' (psB g A0 c0 all.length s :: tkR A0 c0 all :: L) from take_no h ht HS)
  clear ht
  cases ht : (takeP s (bs [105, 102])).1 with
  | true =>
    rw [if_pos ht] at hp
    obtain ⟨s1, hs_⟩ : ∃ x, x = (takeP s (bs [105, 102])).2 := ⟨_, rfl⟩
    have HT2 := Aside0.mk (fun (w : World) (L : List Chunk) (HS : Sat W0 w (psB g A0 c0 all.length s :: tkR A0 c0 all :: L)) => show Calls Tryd.prog 23 #[.pointer (some ⟨g, 0, none⟩), .string ⟨#[105, 102]⟩] w fun r w' => r = .returned (.bool true) ∧ Sat W0 w' (psB g A0 c0 all.length (takeP s (bs [105, 102])).2 :: tkR A0 c0 all :: L) from take_at h ht HS)
    have h1 := h.take (bs [105, 102])
    rw [← hs_] at HT2 h1 hp
    clear hs_
    have HCH := Aside0.mk (fun (w : World) (M : List Chunk) (hM : OldIn W0 M) (HS : Sat W0 w (psB g A0 c0 all.length s1 :: tkR A0 c0 all :: M)) => hC W0 w M g A0 c0 t.f3 s1 e s' HGL.out hM h1 hp HS)
    clear hp h h1 ht hF hW hB hC hT
    go_enter Tryd.func62, Tryd.ntmps62
    go_upto_region 1 with (first | ((with_reducible refine gate_dst (N := 2) rfl ?_); go_must (refine ev_box HS rfl (N := 2) rfl (cs := #[.int .i64 0, .int .i64 0, .int .i64 0, .string ⟨#[]⟩, .slice none 0 0, .slice none 0 0, .slice none 0 0]) (t := 45) ?hrun ?_); (case hrun => first | (go_simp; done) | (go_simp; rfl)); clear HS; intro g2 w HS; replace HS := rot3 HS))
    go_upto_region 3 with (first | ((try (refine gate_guard (by rfl) ?_; dsimp only)); go_at_call 22; (first | (with_reducible refine (HNW.out _ _ HS).mono ?_)); rintro e_ w_ ⟨rfl, HS_⟩; clear HS; have HS := HS_; clear HS_) | ((with_reducible refine gate_dst (N := 3) rfl ?_); go_must (refine ev_box HS rfl (N := 3) rfl (cs := #[.int .i64 0, .int .i64 0, .int .i64 0, .string ⟨#[]⟩, .slice none 0 0, .slice none 0 0, .slice none 0 0]) (t := 45) ?hrun ?_); (case hrun => first | (go_simp; done) | (go_simp; rfl)); clear HS; intro g3 w HS; replace HS := rot3 HS) | ((with_reducible refine gate_store (t := 45) (p := 3) rfl ?_); go_must (refine ev_store HS 2 rfl rfl 45 (.tmp 3) (.tmp 7) rfl rfl rfl [.int .i64 0, .int .i64 t.f3.f0, .int .i64 t.f3.f1, .string ⟨#[]⟩, .slice none 0 0, .slice none 0 0, .slice none 0 0] ?hx (by kernel_rfl) (by rfl) ?h1 ?_); (case hx => first | rfl | (go_simp; done)); (case h1 => simp [Value.oneCell']); clear HS; intro w HS))
    go_wp2_with (first | ((try (refine gate_guard (by rfl) ?_; dsimp only)); go_at_call 23; (first | (with_reducible refine (HT1.out _ _ HS).mono ?_) | (with_reducible refine (HT2.out _ _ HS).mono ?_)); rintro e_ w_ ⟨rfl, HS_⟩; clear HS; have HS := HS_; clear HS_) | ((with_reducible refine gate_dst (N := 28) rfl ?_); (with_reducible refine gate_load (ty := 45) (p := 3) rfl ?_); (try (refine gate_guard (by rfl) ?_; dsimp only)); go_must (refine ev_load HS 2 rfl rfl 45 (.tmp 3) rfl (N := 28) rfl rfl _ Tryd.underlying45 rfl (by kernel_rfl) ?_)) | ((try (refine gate_guard (by rfl) ?_; dsimp only)); go_at_call 74; refine (HCH.out _ _ (by repeat (first | exact HOLD.out | apply OldIn.cons)) HS).mono ?_; rintro e_ w_ ⟨vA, vB, vC, va, vb, vc, va', vb', vc', rfl, HS_⟩; clear HS; have HS := HS_; clear HS_; replace HS := rot3 HS) | ((with_reducible refine gate_store (t := 45) (p := 2) rfl ?_); go_must (refine ev_store HS 4 rfl rfl 45 (.tmp 2) (.tmp 29) rfl rfl rfl (stA e (.slice vA va va') (.slice vB vb vb') (.slice vC vc vc')) ?hx (by kernel_rfl) (by rfl) ?h1 ?_); (case hx => first | rfl | (go_simp; done)); (case h1 => simp [Value.oneCell']); clear HS; intro w HS))
    refine ret_row HS 4 rfl (p := 2) rfl rfl _ Tryd.underlying45 rfl (by kernel_rfl) rfl ?_
    replace HS := HS.erase 3
    replace HS := HS.erase 3
    exact ⟨vA, vB, vC, va, vb, vc, va', vb', vc', rfl, tor3 HS⟩
  | false =>
  rw [if_neg (by rw [ht]; decide)] at hp
  have HT2 := Aside0.mk (fun (w : World) (L : List Chunk) (HS : Sat W0 w (psB g A0 c0 all.length s :: tkR A0 c0 all :: L)) => show Calls Tryd.prog 23 #[.pointer (some ⟨g, 0, none⟩), .string ⟨#[105, 102]⟩] w fun r w' => r = .returned (.bool false) ∧ Sat W0 w' (psB g A0 c0 all.length s :: tkR A0 c0 all :: L) from take_no h ht HS)
  clear ht
  cases ht : (takeP s (bs [119, 104, 105, 108, 101])).1 with
  | true =>
    rw [if_pos ht] at hp
    obtain ⟨s1, hs_⟩ : ∃ x, x = (takeP s (bs [119, 104, 105, 108, 101])).2 := ⟨_, rfl⟩
    have HT3 := Aside0.mk (fun (w : World) (L : List Chunk) (HS : Sat W0 w (psB g A0 c0 all.length s :: tkR A0 c0 all :: L)) => show Calls Tryd.prog 23 #[.pointer (some ⟨g, 0, none⟩), .string ⟨#[119, 104, 105, 108, 101]⟩] w fun r w' => r = .returned (.bool true) ∧ Sat W0 w' (psB g A0 c0 all.length (takeP s (bs [119, 104, 105, 108, 101])).2 :: tkR A0 c0 all :: L) from take_at h ht HS)
    have h1 := h.take (bs [119, 104, 105, 108, 101])
    rw [← hs_] at HT3 h1 hp
    clear hs_
    cases he : F.whole s1 with
    | none => rw [he] at hp; cases hp
    | some r_ =>
    obtain ⟨e1, s2⟩ := r_
    rw [he] at hp
    simp only at hp
    have h2 := (hF.whole _ _ _ h1 he).1
    have HWH := Aside0.mk (fun (w : World) (M : List Chunk) (hM : OldIn W0 M) (HS : Sat W0 w (psB g A0 c0 all.length s1 :: tkR A0 c0 all :: M)) => ex_d hW W0 w M g A0 c0 s1 e1 s2 HGL.out hM h1 he HS)
    cases hb : F.block s2 with
    | none => rw [hb] at hp; cases hp
    | some r_ =>
    obtain ⟨b1, s3⟩ := r_
    rw [hb] at hp
    simp only at hp
    obtain ⟨rfl, rfl⟩ := pair_inj hp
    have HBL := Aside0.mk (fun (w : World) (M : List Chunk) (hM : OldIn W0 M) (HS : Sat W0 w (psB g A0 c0 all.length s2 :: tkR A0 c0 all :: M)) => hB W0 w M g A0 c0 s2 b1 s3 HGL.out hM h2 hb HS)
    clear hp he hb h h1 h2 ht hF hW hB hC hT
    go_enter Tryd.func62, Tryd.ntmps62
    go_upto_region 1 with (first | ((with_reducible refine gate_dst (N := 2) rfl ?_); go_must (refine ev_box HS rfl (N := 2) rfl (cs := #[.int .i64 0, .int .i64 0, .int .i64 0, .string ⟨#[]⟩, .slice none 0 0, .slice none 0 0, .slice none 0 0]) (t := 45) ?hrun ?_); (case hrun => first | (go_simp; done) | (go_simp; rfl)); clear HS; intro g2 w HS; replace HS := rot3 HS))
    go_upto_region 3 with (first | ((try (refine gate_guard (by rfl) ?_; dsimp only)); go_at_call 22; (first | (with_reducible refine (HNW.out _ _ HS).mono ?_)); rintro e_ w_ ⟨rfl, HS_⟩; clear HS; have HS := HS_; clear HS_) | ((with_reducible refine gate_dst (N := 3) rfl ?_); go_must (refine ev_box HS rfl (N := 3) rfl (cs := #[.int .i64 0, .int .i64 0, .int .i64 0, .string ⟨#[]⟩, .slice none 0 0, .slice none 0 0, .slice none 0 0]) (t := 45) ?hrun ?_); (case hrun => first | (go_simp; done) | (go_simp; rfl)); clear HS; intro g3 w HS; replace HS := rot3 HS) | ((with_reducible refine gate_store (t := 45) (p := 3) rfl ?_); go_must (refine ev_store HS 2 rfl rfl 45 (.tmp 3) (.tmp 7) rfl rfl rfl [.int .i64 0, .int .i64 t.f3.f0, .int .i64 t.f3.f1, .string ⟨#[]⟩, .slice none 0 0, .slice none 0 0, .slice none 0 0] ?hx (by kernel_rfl) (by rfl) ?h1 ?_); (case hx => first | rfl | (go_simp; done)); (case h1 => simp [Value.oneCell']); clear HS; intro w HS))
    go_wp2_with (first | ((try (refine gate_guard (by rfl) ?_; dsimp only)); go_at_call 23; (first | (with_reducible refine (HT1.out _ _ HS).mono ?_) | (with_reducible refine (HT2.out _ _ HS).mono ?_) | (with_reducible refine (HT3.out _ _ HS).mono ?_)); rintro e_ w_ ⟨rfl, HS_⟩; clear HS; have HS := HS_; clear HS_) | ((try (refine gate_guard (by rfl) ?_; dsimp only)); go_at_call 73; refine (HWH.out _ _ (by repeat (first | exact HOLD.out | apply OldIn.cons)) HS).mono ?_; rintro e_ w_ ⟨eA, en, ec, rfl, HS_⟩; clear HS; have HS := HS_; clear HS_; replace HS := rot3 HS) | ((with_reducible refine gate_dst (N := 35) rfl ?_); go_must (refine ev_litb HS rfl (N := 35) rfl (cs := ((exA e1 (.slice eA en ec))).toArray) (e := 51) (n := 1) ?hrun ?_); (case hrun => first | (go_simp; done) | (go_simp; rfl)); clear HS; intro g35 w HS; replace HS := rot3 HS) | ((with_reducible refine gate_store (t := 42) (p := 36) rfl ?_); go_must (refine ev_storeN HS 4 rfl rfl 0 42 (.tmp 36) (.const (.int .i64 5)) rfl rfl rfl (.int .i64 5) ?hv [.int .i64 5] rfl (by kernel_rfl) (by simp) ?h1 #[.int .i64 5, .int .i64 t.f3.f0, .int .i64 t.f3.f1, .string ⟨#[]⟩, .slice none 0 0, .slice none 0 0, .slice none 0 0] rfl ?_); (case hv => first | rfl | (go_simp; done) | (go_simp; rfl)); (case h1 => simp [Value.oneCell']); clear HS; intro w HS) | ((with_reducible refine gate_store (t := 43) (p := 37) rfl ?_); go_must (refine ev_storeN HS 4 rfl rfl 4 43 (.tmp 37) (.tmp 35) rfl rfl rfl (.slice (some ⟨g35, 0, none⟩) 1 1) ?hv [.slice (some ⟨g35, 0, none⟩) 1 1] rfl (by kernel_rfl) (by simp) ?h1 #[.int .i64 5, .int .i64 t.f3.f0, .int .i64 t.f3.f1, .string ⟨#[]⟩, .slice (some ⟨g35, 0, none⟩) 1 1, .slice none 0 0, .slice none 0 0] rfl ?_); (case hv => first | rfl | (go_simp; done) | (go_simp; rfl)); (case h1 => simp [Value.oneCell']); clear HS; intro w HS) | ((try (refine gate_guard (by rfl) ?_; dsimp only)); go_at_call 47; refine (HBL.out _ _ (by repeat (first | exact HOLD.out | apply OldIn.cons)) HS).mono ?_; rintro e_ w_ ⟨bA, bn, bc, rfl, HS_⟩; clear HS; have HS := HS_; clear HS_; replace HS := rot3 HS) | ((with_reducible refine gate_store (t := 39) (p := 40) rfl ?_); go_must (refine ev_storeN HS 5 rfl rfl 5 39 (.tmp 40) (.tmp 39) rfl rfl rfl (.slice bA bn bc) ?hv [.slice bA bn bc] rfl (by kernel_rfl) (by simp) ?h1 #[.int .i64 5, .int .i64 t.f3.f0, .int .i64 t.f3.f1, .string ⟨#[]⟩, .slice (some ⟨g35, 0, none⟩) 1 1, .slice bA bn bc, .slice none 0 0] rfl ?_); (case hv => first | rfl | (go_simp; done) | (go_simp; rfl)); (case h1 => simp [Value.oneCell']); clear HS; intro w HS) | ((with_reducible refine gate_dst (N := 41) rfl ?_); (with_reducible refine gate_load (ty := 45) (p := 3) rfl ?_); (try (refine gate_guard (by rfl) ?_; dsimp only)); go_must (refine ev_load HS 5 rfl rfl 45 (.tmp 3) rfl (N := 41) rfl rfl _ Tryd.underlying45 rfl (by kernel_rfl) ?_)) | ((with_reducible refine gate_store (t := 45) (p := 2) rfl ?_); go_must (refine ev_store HS 6 rfl rfl 45 (.tmp 2) (.tmp 41) rfl rfl rfl [.int .i64 5, .int .i64 t.f3.f0, .int .i64 t.f3.f1, .string ⟨#[]⟩, .slice (some ⟨g35, 0, none⟩) 1 1, .slice bA bn bc, .slice none 0 0] ?hx (by kernel_rfl) (by rfl) ?h1 ?_); (case hx => first | rfl | (go_simp; done)); (case h1 => simp [Value.oneCell']); clear HS; intro w HS))
    refine ret_row HS 6 rfl (p := 2) rfl rfl _ Tryd.underlying45 rfl (by kernel_rfl) rfl ?_
    replace HS := HS.erase 5
    replace HS := HS.erase 5
    replace HS := HS.nil k45 45
    replace HS := HS.front 2 rfl
    replace HS := HS.front 2 rfl
    replace HS := HS.front 2 rfl
    replace HS := HS.front 3 rfl
    replace HS := HS.front 5 rfl
    replace HS := HS.front 5 rfl
    exact ⟨some ⟨g35, 0, none⟩, bA, none, 1, bn, 0, 1, bc, 0, rfl, st_of_rows ⟨5, t.f3, bs [], [e1], b1, []⟩ (row_one e1 HS)⟩
  | false =>
  rw [if_neg (by rw [ht]; decide)] at hp
  have HT3 := Aside0.mk (fun (w : World) (L : List Chunk) (HS : Sat W0 w (psB g A0 c0 all.length s :: tkR A0 c0 all :: L)) => show Calls Tryd.prog 23 #[.pointer (some ⟨g, 0, none⟩), .string ⟨#[119, 104, 105, 108, 101]⟩] w fun r w' => r = .returned (.bool false) ∧ Sat W0 w' (psB g A0 c0 all.length s :: tkR A0 c0 all :: L) from take_no h ht HS)
  clear ht
  cases ht : (takeP s (bs [114, 101, 116, 117, 114, 110])).1 with
  | true =>
    rw [if_pos ht] at hp
    obtain ⟨s1, hs_⟩ : ∃ x, x = (takeP s (bs [114, 101, 116, 117, 114, 110])).2 := ⟨_, rfl⟩
    have HT4 := Aside0.mk (fun (w : World) (L : List Chunk) (HS : Sat W0 w (psB g A0 c0 all.length s :: tkR A0 c0 all :: L)) => show Calls Tryd.prog 23 #[.pointer (some ⟨g, 0, none⟩), .string ⟨#[114, 101, 116, 117, 114, 110]⟩] w fun r w' => r = .returned (.bool true) ∧ Sat W0 w' (psB g A0 c0 all.length (takeP s (bs [114, 101, 116, 117, 114, 110])).2 :: tkR A0 c0 all :: L) from take_at h ht HS)
    have h1 := h.take (bs [114, 101, 116, 117, 114, 110])
    rw [← hs_] at HT4 h1 hp
    clear hs_
    cases he : F.whole s1 with
    | none => rw [he] at hp; cases hp
    | some r_ =>
    obtain ⟨e1, s2⟩ := r_
    rw [he] at hp
    simp only at hp
    unfold semi at hp
    simp only at hp
    obtain ⟨rfl, rfl⟩ := pair_inj hp
    have h2 := (hF.whole _ _ _ h1 he).1
    have HWH := Aside0.mk (fun (w : World) (M : List Chunk) (hM : OldIn W0 M) (HS : Sat W0 w (psB g A0 c0 all.length s1 :: tkR A0 c0 all :: M)) => ex_d hW W0 w M g A0 c0 s1 e1 s2 HGL.out hM h1 he HS)
    have HW2 := Aside0.mk (fun (w : World) (L : List Chunk) (HS : Sat W0 w (psB g A0 c0 all.length s2 :: tkR A0 c0 all :: L)) => show Calls Tryd.prog 46 #[.pointer (some ⟨g, 0, none⟩), .string ⟨#[59]⟩] w fun r w' => r = .returned (.tuple #[]) ∧ Sat W0 w' (psB g A0 c0 all.length (wantP s2 (bs [59])) :: tkR A0 c0 all :: L) from want_callsP h2 HS (bs [59]))
    clear hp he h h1 h2 ht hF hW hB hC hT
    go_enter Tryd.func62, Tryd.ntmps62
    go_upto_region 1 with (first | ((with_reducible refine gate_dst (N := 2) rfl ?_); go_must (refine ev_box HS rfl (N := 2) rfl (cs := #[.int .i64 0, .int .i64 0, .int .i64 0, .string ⟨#[]⟩, .slice none 0 0, .slice none 0 0, .slice none 0 0]) (t := 45) ?hrun ?_); (case hrun => first | (go_simp; done) | (go_simp; rfl)); clear HS; intro g2 w HS; replace HS := rot3 HS))
    go_upto_region 3 with (first | ((try (refine gate_guard (by rfl) ?_; dsimp only)); go_at_call 22; (first | (with_reducible refine (HNW.out _ _ HS).mono ?_)); rintro e_ w_ ⟨rfl, HS_⟩; clear HS; have HS := HS_; clear HS_) | ((with_reducible refine gate_dst (N := 3) rfl ?_); go_must (refine ev_box HS rfl (N := 3) rfl (cs := #[.int .i64 0, .int .i64 0, .int .i64 0, .string ⟨#[]⟩, .slice none 0 0, .slice none 0 0, .slice none 0 0]) (t := 45) ?hrun ?_); (case hrun => first | (go_simp; done) | (go_simp; rfl)); clear HS; intro g3 w HS; replace HS := rot3 HS) | ((with_reducible refine gate_store (t := 45) (p := 3) rfl ?_); go_must (refine ev_store HS 2 rfl rfl 45 (.tmp 3) (.tmp 7) rfl rfl rfl [.int .i64 0, .int .i64 t.f3.f0, .int .i64 t.f3.f1, .string ⟨#[]⟩, .slice none 0 0, .slice none 0 0, .slice none 0 0] ?hx (by kernel_rfl) (by rfl) ?h1 ?_); (case hx => first | rfl | (go_simp; done)); (case h1 => simp [Value.oneCell']); clear HS; intro w HS))
    go_wp2_with (first | ((try (refine gate_guard (by rfl) ?_; dsimp only)); go_at_call 23; (first | (with_reducible refine (HT1.out _ _ HS).mono ?_) | (with_reducible refine (HT2.out _ _ HS).mono ?_) | (with_reducible refine (HT3.out _ _ HS).mono ?_) | (with_reducible refine (HT4.out _ _ HS).mono ?_)); rintro e_ w_ ⟨rfl, HS_⟩; clear HS; have HS := HS_; clear HS_) | ((try (refine gate_guard (by rfl) ?_; dsimp only)); go_at_call 73; refine (HWH.out _ _ (by repeat (first | exact HOLD.out | apply OldIn.cons)) HS).mono ?_; rintro e_ w_ ⟨eA, en, ec, rfl, HS_⟩; clear HS; have HS := HS_; clear HS_; replace HS := rot3 HS) | ((with_reducible refine gate_dst (N := 47) rfl ?_); go_must (refine ev_litb HS rfl (N := 47) rfl (cs := ((exA e1 (.slice eA en ec))).toArray) (e := 51) (n := 1) ?hrun ?_); (case hrun => first | (go_simp; done) | (go_simp; rfl)); clear HS; intro g47 w HS; replace HS := rot3 HS) | ((with_reducible refine gate_store (t := 42) (p := 48) rfl ?_); go_must (refine ev_storeN HS 4 rfl rfl 0 42 (.tmp 48) (.const (.int .i64 6)) rfl rfl rfl (.int .i64 6) ?hv [.int .i64 6] rfl (by kernel_rfl) (by simp) ?h1 #[.int .i64 6, .int .i64 t.f3.f0, .int .i64 t.f3.f1, .string ⟨#[]⟩, .slice none 0 0, .slice none 0 0, .slice none 0 0] rfl ?_); (case hv => first | rfl | (go_simp; done) | (go_simp; rfl)); (case h1 => simp [Value.oneCell']); clear HS; intro w HS) | ((with_reducible refine gate_store (t := 43) (p := 49) rfl ?_); go_must (refine ev_storeN HS 4 rfl rfl 4 43 (.tmp 49) (.tmp 47) rfl rfl rfl (.slice (some ⟨g47, 0, none⟩) 1 1) ?hv [.slice (some ⟨g47, 0, none⟩) 1 1] rfl (by kernel_rfl) (by simp) ?h1 #[.int .i64 6, .int .i64 t.f3.f0, .int .i64 t.f3.f1, .string ⟨#[]⟩, .slice (some ⟨g47, 0, none⟩) 1 1, .slice none 0 0, .slice none 0 0] rfl ?_); (case hv => first | rfl | (go_simp; done) | (go_simp; rfl)); (case h1 => simp [Value.oneCell']); clear HS; intro w HS) | ((try (refine gate_guard (by rfl) ?_; dsimp only)); go_at_call 46; (first | (with_reducible refine (HW2.out _ _ HS).mono ?_)); rintro e_ w_ ⟨rfl, HS_⟩; clear HS; have HS := HS_; clear HS_) | ((with_reducible refine gate_dst (N := 52) rfl ?_); (with_reducible refine gate_load (ty := 45) (p := 3) rfl ?_); (try (refine gate_guard (by rfl) ?_; dsimp only)); go_must (refine ev_load HS 4 rfl rfl 45 (.tmp 3) rfl (N := 52) rfl rfl _ Tryd.underlying45 rfl (by kernel_rfl) ?_)) | ((with_reducible refine gate_store (t := 45) (p := 2) rfl ?_); go_must (refine ev_store HS 5 rfl rfl 45 (.tmp 2) (.tmp 52) rfl rfl rfl [.int .i64 6, .int .i64 t.f3.f0, .int .i64 t.f3.f1, .string ⟨#[]⟩, .slice (some ⟨g47, 0, none⟩) 1 1, .slice none 0 0, .slice none 0 0] ?hx (by kernel_rfl) (by rfl) ?h1 ?_); (case hx => first | rfl | (go_simp; done)); (case h1 => simp [Value.oneCell']); clear HS; intro w HS))
    refine ret_row HS 5 rfl (p := 2) rfl rfl _ Tryd.underlying45 rfl (by kernel_rfl) rfl ?_
    replace HS := HS.erase 4
    replace HS := HS.erase 4
    replace HS := HS.front 1 rfl
    replace HS := HS.front 1 rfl
    replace HS := HS.front 3 rfl
    replace HS := HS.front 3 rfl
    exact ⟨some ⟨g47, 0, none⟩, none, none, 1, 0, 0, 1, 0, 0, rfl, st_e ⟨6, t.f3, bs [], [e1], [], []⟩ rfl rfl (row_one e1 HS)⟩
  | false =>
  rw [if_neg (by rw [ht]; decide)] at hp
  have HT4 := Aside0.mk (fun (w : World) (L : List Chunk) (HS : Sat W0 w (psB g A0 c0 all.length s :: tkR A0 c0 all :: L)) => show Calls Tryd.prog 23 #[.pointer (some ⟨g, 0, none⟩), .string ⟨#[114, 101, 116, 117, 114, 110]⟩] w fun r w' => r = .returned (.bool false) ∧ Sat W0 w' (psB g A0 c0 all.length s :: tkR A0 c0 all :: L) from take_no h ht HS)
  clear ht
  cases hu : turnP F ⟨0, t.f3, bs [], [], [], []⟩ s with
  | none => rw [hu] at hp; unfold semi at hp; cases hp
  | some r_ =>
  obtain ⟨u1, s1⟩ := r_
  rw [hu] at hp
  unfold semi at hp
  simp only at hp
  obtain ⟨rfl, rfl⟩ := pair_inj hp
  have h1 := (turn_keeps hF _ _ _ _ h hu).1
  have HTN := Aside0.mk (fun (w : World) (M : List Chunk) (hM : OldIn W0 M) (HS : Sat W0 w (psB g A0 c0 all.length s :: tkR A0 c0 all :: M)) => hT W0 w M g A0 c0 t.f3 s u1 s1 HGL.out hM h hu HS)
  have HW2 := Aside0.mk (fun (w : World) (L : List Chunk) (HS : Sat W0 w (psB g A0 c0 all.length s1 :: tkR A0 c0 all :: L)) => show Calls Tryd.prog 46 #[.pointer (some ⟨g, 0, none⟩), .string ⟨#[59]⟩] w fun r w' => r = .returned (.tuple #[]) ∧ Sat W0 w' (psB g A0 c0 all.length (wantP s1 (bs [59])) :: tkR A0 c0 all :: L) from want_callsP h1 HS (bs [59]))
  clear hp hu h h1 hF hW hB hC hT
  go_enter Tryd.func62, Tryd.ntmps62
  go_upto_region 1 with (first | ((with_reducible refine gate_dst (N := 2) rfl ?_); go_must (refine ev_box HS rfl (N := 2) rfl (cs := #[.int .i64 0, .int .i64 0, .int .i64 0, .string ⟨#[]⟩, .slice none 0 0, .slice none 0 0, .slice none 0 0]) (t := 45) ?hrun ?_); (case hrun => first | (go_simp; done) | (go_simp; rfl)); clear HS; intro g2 w HS; replace HS := rot3 HS))
  go_upto_region 3 with (first | ((try (refine gate_guard (by rfl) ?_; dsimp only)); go_at_call 22; (first | (with_reducible refine (HNW.out _ _ HS).mono ?_)); rintro e_ w_ ⟨rfl, HS_⟩; clear HS; have HS := HS_; clear HS_) | ((with_reducible refine gate_dst (N := 3) rfl ?_); go_must (refine ev_box HS rfl (N := 3) rfl (cs := #[.int .i64 0, .int .i64 0, .int .i64 0, .string ⟨#[]⟩, .slice none 0 0, .slice none 0 0, .slice none 0 0]) (t := 45) ?hrun ?_); (case hrun => first | (go_simp; done) | (go_simp; rfl)); clear HS; intro g3 w HS; replace HS := rot3 HS) | ((with_reducible refine gate_store (t := 45) (p := 3) rfl ?_); go_must (refine ev_store HS 2 rfl rfl 45 (.tmp 3) (.tmp 7) rfl rfl rfl [.int .i64 0, .int .i64 t.f3.f0, .int .i64 t.f3.f1, .string ⟨#[]⟩, .slice none 0 0, .slice none 0 0, .slice none 0 0] ?hx (by kernel_rfl) (by rfl) ?h1 ?_); (case hx => first | rfl | (go_simp; done)); (case h1 => simp [Value.oneCell']); clear HS; intro w HS))
  go_wp2_with (first | ((try (refine gate_guard (by rfl) ?_; dsimp only)); go_at_call 23; (first | (with_reducible refine (HT1.out _ _ HS).mono ?_) | (with_reducible refine (HT2.out _ _ HS).mono ?_) | (with_reducible refine (HT3.out _ _ HS).mono ?_) | (with_reducible refine (HT4.out _ _ HS).mono ?_)); rintro e_ w_ ⟨rfl, HS_⟩; clear HS; have HS := HS_; clear HS_) | ((with_reducible refine gate_dst (N := 9) rfl ?_); (with_reducible refine gate_load (ty := 45) (p := 3) rfl ?_); (try (refine gate_guard (by rfl) ?_; dsimp only)); go_must (refine ev_load HS 2 rfl rfl 45 (.tmp 3) rfl (N := 9) rfl rfl _ Tryd.underlying45 rfl (by kernel_rfl) ?_)) | ((try (refine gate_guard (by rfl) ?_; dsimp only)); go_at_call 75; refine (HTN.out _ _ (by repeat (first | exact HOLD.out | apply OldIn.cons)) HS).mono ?_; rintro e_ w_ ⟨vA, vB, vC, va, vb, vc, va', vb', vc', rfl, HS_⟩; clear HS; have HS := HS_; clear HS_; replace HS := rot3 HS) | ((with_reducible refine gate_store (t := 45) (p := 3) rfl ?_); go_must (refine ev_store HS 3 rfl rfl 45 (.tmp 3) (.tmp 10) rfl rfl rfl (stA u1 (.slice vA va va') (.slice vB vb vb') (.slice vC vc vc')) ?hx (by kernel_rfl) (by rfl) ?h1 ?_); (case hx => first | rfl | (go_simp; done)); (case h1 => simp [Value.oneCell']); clear HS; intro w HS) | ((try (refine gate_guard (by rfl) ?_; dsimp only)); go_at_call 46; (first | (with_reducible refine (HW2.out _ _ HS).mono ?_)); rintro e_ w_ ⟨rfl, HS_⟩; clear HS; have HS := HS_; clear HS_) | ((with_reducible refine gate_dst (N := 52) rfl ?_); (with_reducible refine gate_load (ty := 45) (p := 3) rfl ?_); (try (refine gate_guard (by rfl) ?_; dsimp only)); go_must (refine ev_load HS 3 rfl rfl 45 (.tmp 3) rfl (N := 52) rfl rfl _ Tryd.underlying45 rfl (by kernel_rfl) ?_)) | ((with_reducible refine gate_store (t := 45) (p := 2) rfl ?_); go_must (refine ev_store HS 4 rfl rfl 45 (.tmp 2) (.tmp 52) rfl rfl rfl (stA u1 (.slice vA va va') (.slice vB vb vb') (.slice vC vc vc')) ?hx (by kernel_rfl) (by rfl) ?h1 ?_); (case hx => first | rfl | (go_simp; done)); (case h1 => simp [Value.oneCell']); clear HS; intro w HS))
  refine ret_row HS 4 rfl (p := 2) rfl rfl _ Tryd.underlying45 rfl (by kernel_rfl) rfl ?_
  replace HS := HS.erase 3
  replace HS := HS.erase 3
  exact ⟨vA, vB, vC, va, vb, vc, va', vb', vc', rfl, tor3 HS⟩
end Go.Proofs.YtenkganofobioaaDoor.B
