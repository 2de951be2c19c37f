/- Parsing: the recursion; global. -/
import Derived.Test.YtenkganofobioaaDoorPaStmt
namespace Go.Proofs.YtenkganofobioaaDoor.B
open Go.RowKit Go.Proofs.YtenkganofobioaaDoor.Mine Go.Proofs.YtenkganofobioaaDoor.Sep Go.Proofs.YtenkganofobioaaDoorW.PrintWords Go.Proofs.YtenkganofobioaaDoorW.PrintLast Go.Proofs.YtenkganofobioaaDoorW.PrintMore
set_option linter.unusedVariables false
set_option linter.unusedSimpArgs false
attribute [local go_sem] Instr.field asAgg
/-- The four parts that call each other do what the plain ones tell. -/
structure FC (all : List TK) (F : Fns) : Prop where
  whole : ExC all 73 [] F.whole
  unary : ExC all 92 [] F.unary
  block : BlD all 47 [] F.block
  choice : StE all 74 F.choice
theorem fc_turn {all : List TK} {F : Fns} (hF : FKeep all F) (hX : FIx F) (h : FC all F) : StE all 75 (turnP F) := turn_walk hF hX h.whole
theorem fc_stmt {all : List TK} {F : Fns} (hF : FKeep all F) (hX : FIx F) (h : FC all F) : StD all 62 (stmtP F) := stmt_walk hF h.whole h.block h.choice (fc_turn hF hX h)
theorem fc_step {all : List TK} {F : Fns} (hF : FKeep all F) (hX : FIx F) (h : FC all F) : FC all (stepF F) :=
  ⟨whole_walk hF (expr_walk hF h.unary 5 (Nat.le_refl _)), unary_walk hF h.unary (fun p => primary_walk hF h.whole (args_walk hF h.whole) p), block_walk hF (fc_stmt hF hX h), choice_walk hF h.whole h.block h.choice⟩
theorem fc_all (all : List TK) : ∀ k : Nat, FC all (fnsF k)
  | 0 => ⟨fun _ _ _ _ _ _ _ _ _ _ _ _ _ h _ => (nomatch h), fun _ _ _ _ _ _ _ _ _ _ _ _ _ h _ => (nomatch h), fun _ _ _ _ _ _ _ _ _ _ _ _ h _ => (nomatch h), fun _ _ _ _ _ _ _ _ _ _ _ _ _ h _ => (nomatch h)⟩
  | k + 1 => fc_step (fns_keep all k) (fns_ix k) (fc_all all k)
abbrev gbA (x : GB) : List Value := [.string x.f0, .int .i64 x.f1, .int .i64 x.f2, .int .i64 x.f3.f0, .int .i64 x.f3.f1]
set_option maxRecDepth 100000 in
set_option maxHeartbeats 8000000 in
theorem global_calls {W0 w : World} {L : List Chunk} {g : Nat} {A0 : Addr} {c0 : Nat} {all : List S71} {s : PS} (h : POk all s) (kind : Int) (HS : Sat W0 w (psB g A0 c0 all.length s :: tkR A0 c0 all :: L)) :
    Calls Tryd.prog 24 #[.pointer (some ⟨g, 0, none⟩), .int .i64 kind] w fun r w' => r = .returned (.agg (gbA (globalP kind s).1).toArray) ∧ Sat W0 w' (psB g A0 c0 all.length (globalP kind s).2 :: tkR A0 c0 all :: L) := by
  obtain ⟨R, hR⟩ : ∃ R, R = globalP kind s := ⟨_, rfl⟩
  rw [← hR]
  unfold globalP at hR
  simp only at hR
  have HNW := Aside0.mk (fun (w : World) (L : List Chunk) (HS : Sat W0 w (psB g A0 c0 all.length s :: tkR A0 c0 all :: L)) => show Calls Tryd.prog 22 #[.pointer (some ⟨g, 0, none⟩)] w _ from now_calls h HS)
  try unfold tkA at HNW
  obtain ⟨t, ht⟩ : ∃ t, t = nowP s := ⟨_, rfl⟩
  rw [← ht] at HNW hR
  clear ht
  have HNM := Aside0.mk (fun (w : World) (L : List Chunk) (HS : Sat W0 w (psB g A0 c0 all.length s :: tkR A0 c0 all :: L)) => name_callsP h HS)
  have h1 := h.name
  obtain ⟨nm, hnm⟩ : ∃ x, x = (nameP s).1 := ⟨_, rfl⟩
  obtain ⟨s1, hs1⟩ : ∃ x, x = (nameP s).2 := ⟨_, rfl⟩
  rw [← hnm, ← hs1] at hR HNM
  rw [← hs1] at h1
  clear hs1 hnm h
  cases ht : (takeP s1 (bs [91])).1 with
  | false =>
    rw [if_neg (by rw [ht]; decide), take_same ht] at hR
    simp only at hR
    have HT1 := Aside0.mk (fun (w : World) (L : List Chunk) (HS : Sat W0 w (psB g A0 c0 all.length s1 :: tkR A0 c0 all :: L)) => show Calls Tryd.prog 23 #[.pointer (some ⟨g, 0, none⟩), .string ⟨#[91]⟩] w fun r w' => r = .returned (.bool false) ∧ Sat W0 w' (psB g A0 c0 all.length s1 :: tkR A0 c0 all :: L) from take_no h1 ht HS)
    have HW2 := Aside0.mk (fun (w : World) (L : List Chunk) (HS : Sat W0 w (psB g A0 c0 all.length s1 :: tkR A0 c0 all :: L)) => show Calls Tryd.prog 46 #[.pointer (some ⟨g, 0, none⟩), .string ⟨#[59]⟩] w fun r w' => r = .returned (.tuple #[]) ∧ Sat W0 w' (psB g A0 c0 all.length (wantP s1 (bs [59])) :: tkR A0 c0 all :: L) from want_callsP h1 HS (bs [59]))
    have hR_ := Aside0.mk hR
    clear hR ht h1
    go_enter Tryd.func24, Tryd.ntmps24
    go_upto_region 1 with (first | ((with_reducible refine gate_dst (N := 4) rfl ?_); go_must (refine ev_box HS rfl (N := 4) rfl (cs := #[.string ⟨#[]⟩, .int .i64 0, .int .i64 0, .int .i64 0, .int .i64 0]) (t := 75) ?hrun ?_); (case hrun => first | (go_simp; done) | (go_simp; rfl)); clear HS; intro g4 w HS; replace HS := rot3 HS))
    go_upto_region 2 with (first | ((try (refine gate_guard (by rfl) ?_; dsimp only)); go_at_call 22; (first | (with_reducible refine (HNW.out _ _ HS).mono ?_)); rintro e_ w_ ⟨rfl, HS_⟩; clear HS; have HS := HS_; clear HS_) | ((try (refine gate_guard (by rfl) ?_; dsimp only)); go_at_call 45; (first | (with_reducible refine (HNM.out _ _ HS).mono ?_)); rintro e_ w_ ⟨rfl, HS_⟩; clear HS; have HS := HS_; clear HS_) | ((with_reducible refine gate_dst (N := 5) rfl ?_); go_must (refine ev_box HS rfl (N := 5) rfl (cs := #[.string ⟨#[]⟩, .int .i64 0, .int .i64 0, .int .i64 0, .int .i64 0]) (t := 75) ?hrun ?_); (case hrun => first | (go_simp; done) | (go_simp; rfl)); clear HS; intro g5 w HS; replace HS := rot3 HS) | ((with_reducible refine gate_store (t := 75) (p := 5) rfl ?_); go_must (refine ev_store HS 2 rfl rfl 75 (.tmp 5) (.tmp 13) rfl rfl rfl [.string nm, .int .i64 kind, .int .i64 0, .int .i64 t.f3.f0, .int .i64 t.f3.f1] ?hx (by kernel_rfl) (by rfl) ?h1 ?_); (case hx => first | rfl | (go_simp; done)); (case h1 => simp [Value.oneCell']); clear HS; intro w HS))
    go_wp2_with (first | ((try (refine gate_guard (by rfl) ?_; dsimp only)); go_at_call 23; (first | (with_reducible refine (HT1.out _ _ HS).mono ?_)); rintro e_ w_ ⟨rfl, HS_⟩; clear HS; have HS := HS_; clear HS_) | ((try (refine gate_guard (by rfl) ?_; dsimp only)); go_at_call 46; (first | (with_reducible refine (HW2.out _ _ HS).mono ?_)); rintro e_ w_ ⟨rfl, HS_⟩; clear HS; have HS := HS_; clear HS_) | ((with_reducible refine gate_dst (N := 46) rfl ?_); (with_reducible refine gate_load (ty := 75) (p := 5) rfl ?_); (try (refine gate_guard (by rfl) ?_; dsimp only)); go_must (refine ev_load HS 2 rfl rfl 75 (.tmp 5) rfl (N := 46) rfl rfl _ Tryd.underlying75 rfl (by kernel_rfl) ?_)) | ((with_reducible refine gate_store (t := 75) (p := 4) rfl ?_); go_must (refine ev_store HS 3 rfl rfl 75 (.tmp 4) (.tmp 46) rfl rfl rfl [.string nm, .int .i64 kind, .int .i64 0, .int .i64 t.f3.f0, .int .i64 t.f3.f1] ?hx (by kernel_rfl) (by rfl) ?h1 ?_); (case hx => first | rfl | (go_simp; done)); (case h1 => simp [Value.oneCell']); clear HS; intro w HS))
    refine ret_row HS 3 rfl (p := 4) rfl rfl _ Tryd.underlying75 rfl (by kernel_rfl) rfl ?_
    replace HS := HS.erase 2
    replace HS := HS.erase 2
    rw [hR_.out]
    exact ⟨rfl, HS⟩
  | true =>
  rw [if_pos ht] at hR
  obtain ⟨s2, hs_⟩ : ∃ x, x = (takeP s1 (bs [91])).2 := ⟨_, rfl⟩
  have HT1 := Aside0.mk (fun (w : World) (L : List Chunk) (HS : Sat W0 w (psB g A0 c0 all.length s1 :: tkR A0 c0 all :: L)) => show Calls Tryd.prog 23 #[.pointer (some ⟨g, 0, none⟩), .string ⟨#[91]⟩] w fun r w' => r = .returned (.bool true) ∧ Sat W0 w' (psB g A0 c0 all.length (takeP s1 (bs [91])).2 :: tkR A0 c0 all :: L) from take_at h1 ht HS)
  have h2 := h1.take (bs [91])
  rw [← hs_] at HT1 h2 hR
  clear hs_ ht h1
  have HNX := Aside0.mk (fun (w : World) (L : List Chunk) (HS : Sat W0 w (psB g A0 c0 all.length s2 :: tkR A0 c0 all :: L)) => show Calls Tryd.prog 22 #[.pointer (some ⟨g, 0, none⟩)] w _ from now_calls h2 HS)
  try unfold tkA at HNX
  obtain ⟨u, hu⟩ : ∃ u, u = nowP s2 := ⟨_, rfl⟩
  rw [← hu] at HNX hR
  cases hb : badP s2 with
  | true =>
    rw [if_pos hb] at hR
    simp only at hR
    have HBD := Aside0.mk (fun (w : World) (L : List Chunk) (HS : Sat W0 w (psB g A0 c0 all.length s2 :: tkR A0 c0 all :: L)) => bad_at hb HS)
    have HW1 := Aside0.mk (fun (w : World) (L : List Chunk) (HS : Sat W0 w (psB g A0 c0 all.length s2 :: tkR A0 c0 all :: L)) => show Calls Tryd.prog 46 #[.pointer (some ⟨g, 0, none⟩), .string ⟨#[93]⟩] w fun r w' => r = .returned (.tuple #[]) ∧ Sat W0 w' (psB g A0 c0 all.length (wantP s2 (bs [93])) :: tkR A0 c0 all :: L) from want_callsP h2 HS (bs [93]))
    have h4 := h2.want (bs [93])
    obtain ⟨s4, hs4⟩ : ∃ x, x = wantP s2 (bs [93]) := ⟨_, rfl⟩
    rw [← hs4] at HW1 h4 hR
    clear hs4
    have HW2 := Aside0.mk (fun (w : World) (L : List Chunk) (HS : Sat W0 w (psB g A0 c0 all.length s4 :: tkR A0 c0 all :: L)) => show Calls Tryd.prog 46 #[.pointer (some ⟨g, 0, none⟩), .string ⟨#[59]⟩] w fun r w' => r = .returned (.tuple #[]) ∧ Sat W0 w' (psB g A0 c0 all.length (wantP s4 (bs [59])) :: tkR A0 c0 all :: L) from want_callsP h4 HS (bs [59]))
    have hR_ := Aside0.mk hR
    clear hR h4 h2 hb hu
    go_enter Tryd.func24, Tryd.ntmps24
    go_upto_region 1 with (first | ((with_reducible refine gate_dst (N := 4) rfl ?_); go_must (refine ev_box HS rfl (N := 4) rfl (cs := #[.string ⟨#[]⟩, .int .i64 0, .int .i64 0, .int .i64 0, .int .i64 0]) (t := 75) ?hrun ?_); (case hrun => first | (go_simp; done) | (go_simp; rfl)); clear HS; intro g4 w HS; replace HS := rot3 HS))
    go_upto_region 2 with (first | ((try (refine gate_guard (by rfl) ?_; dsimp only)); go_at_call 22; (first | (with_reducible refine (HNW.out _ _ HS).mono ?_)); rintro e_ w_ ⟨rfl, HS_⟩; clear HS; have HS := HS_; clear HS_) | ((try (refine gate_guard (by rfl) ?_; dsimp only)); go_at_call 45; (first | (with_reducible refine (HNM.out _ _ HS).mono ?_)); rintro e_ w_ ⟨rfl, HS_⟩; clear HS; have HS := HS_; clear HS_) | ((with_reducible refine gate_dst (N := 5) rfl ?_); go_must (refine ev_box HS rfl (N := 5) rfl (cs := #[.string ⟨#[]⟩, .int .i64 0, .int .i64 0, .int .i64 0, .int .i64 0]) (t := 75) ?hrun ?_); (case hrun => first | (go_simp; done) | (go_simp; rfl)); clear HS; intro g5 w HS; replace HS := rot3 HS) | ((with_reducible refine gate_store (t := 75) (p := 5) rfl ?_); go_must (refine ev_store HS 2 rfl rfl 75 (.tmp 5) (.tmp 13) rfl rfl rfl [.string nm, .int .i64 kind, .int .i64 0, .int .i64 t.f3.f0, .int .i64 t.f3.f1] ?hx (by kernel_rfl) (by rfl) ?h1 ?_); (case hx => first | rfl | (go_simp; done)); (case h1 => simp [Value.oneCell']); clear HS; intro w HS))
    go_upto_region 3 with (first | ((try (refine gate_guard (by rfl) ?_; dsimp only)); go_at_call 23; (first | (with_reducible refine (HT1.out _ _ HS).mono ?_)); rintro e_ w_ ⟨rfl, HS_⟩; clear HS; have HS := HS_; clear HS_))
    go_upto_region 5 with (first | ((try (refine gate_guard (by rfl) ?_; dsimp only)); go_at_call 22; (first | (with_reducible refine (HNX.out _ _ HS).mono ?_)); rintro e_ w_ ⟨rfl, HS_⟩; clear HS; have HS := HS_; clear HS_) | ((with_reducible refine gate_dst (N := 6) rfl ?_); go_must (refine ev_box HS rfl (N := 6) rfl (cs := #[.int .i64 0, .string ⟨#[]⟩, .int .i64 0, .int .i64 0, .int .i64 0]) (t := 71) ?hrun ?_); (case hrun => first | (go_simp; done) | (go_simp; rfl)); clear HS; intro g6 w HS; replace HS := rot3 HS) | ((with_reducible refine gate_store (t := 71) (p := 6) rfl ?_); go_must (refine ev_store HS 2 rfl rfl 71 (.tmp 6) (.tmp 17) rfl rfl rfl [.int .i64 u.f0, .string u.f1, .int .i64 u.f2, .int .i64 u.f3.f0, .int .i64 u.f3.f1] ?hx (by kernel_rfl) (by rfl) ?h1 ?_); (case hx => first | rfl | (go_simp; done)); (case h1 => simp [Value.oneCell']); clear HS; intro w HS))
    go_wp2_with (first | ((try (refine gate_guard (by rfl) ?_; dsimp only)); go_at_call 21; (first | (with_reducible refine (HBD.out _ _ HS).mono ?_)); rintro e_ w_ ⟨rfl, HS_⟩; clear HS; have HS := HS_; clear HS_) | ((try (refine gate_guard (by rfl) ?_; dsimp only)); go_at_call 46; (first | (with_reducible refine (HW1.out _ _ HS).mono ?_) | (with_reducible refine (HW2.out _ _ HS).mono ?_)); rintro e_ w_ ⟨rfl, HS_⟩; clear HS; have HS := HS_; clear HS_) | ((with_reducible refine gate_dst (N := 46) rfl ?_); (with_reducible refine gate_load (ty := 75) (p := 5) rfl ?_); (try (refine gate_guard (by rfl) ?_; dsimp only)); go_must (refine ev_load HS 3 rfl rfl 75 (.tmp 5) rfl (N := 46) rfl rfl _ Tryd.underlying75 rfl (by kernel_rfl) ?_)) | ((with_reducible refine gate_store (t := 75) (p := 4) rfl ?_); go_must (refine ev_store HS 4 rfl rfl 75 (.tmp 4) (.tmp 46) rfl rfl rfl [.string nm, .int .i64 kind, .int .i64 0, .int .i64 t.f3.f0, .int .i64 t.f3.f1] ?hx (by kernel_rfl) (by rfl) ?h1 ?_); (case hx => first | rfl | (go_simp; done)); (case h1 => simp [Value.oneCell']); clear HS; intro w HS))
    refine ret_row HS 4 rfl (p := 4) rfl rfl _ Tryd.underlying75 rfl (by kernel_rfl) rfl ?_
    replace HS := HS.erase 2
    replace HS := HS.erase 2
    replace HS := HS.erase 2
    rw [hR_.out]
    exact ⟨rfl, HS⟩
  | false =>
  rw [if_neg (by rw [hb]; decide)] at hR
  have HBD := Aside0.mk (fun (w : World) (L : List Chunk) (HS : Sat W0 w (psB g A0 c0 all.length s2 :: tkR A0 c0 all :: L)) => bad_at hb HS)
  have HU := Aside0.mk hu
  clear hb hu
  cases k2 : (u.f0 != 2) with
  | true =>
    rw [if_pos k2] at hR
    simp only at hR
    have HFL := Aside0.mk (fun (w : World) (L : List Chunk) (HS : Sat W0 w (psB g A0 c0 all.length s2 :: tkR A0 c0 all :: L)) => fail_callsP h2 HS 12)
    have h3 := h2.fail 12
    obtain ⟨s3, hs3⟩ : ∃ x, x = failP s2 12 := ⟨_, rfl⟩
    rw [← hs3] at HFL h3 hR
    clear hs3
    have HW1 := Aside0.mk (fun (w : World) (L : List Chunk) (HS : Sat W0 w (psB g A0 c0 all.length s3 :: tkR A0 c0 all :: L)) => show Calls Tryd.prog 46 #[.pointer (some ⟨g, 0, none⟩), .string ⟨#[93]⟩] w fun r w' => r = .returned (.tuple #[]) ∧ Sat W0 w' (psB g A0 c0 all.length (wantP s3 (bs [93])) :: tkR A0 c0 all :: L) from want_callsP h3 HS (bs [93]))
    have h4 := h3.want (bs [93])
    obtain ⟨s4, hs4⟩ : ∃ x, x = wantP s3 (bs [93]) := ⟨_, rfl⟩
    rw [← hs4] at HW1 h4 hR
    clear hs4
    have HW2 := Aside0.mk (fun (w : World) (L : List Chunk) (HS : Sat W0 w (psB g A0 c0 all.length s4 :: tkR A0 c0 all :: L)) => show Calls Tryd.prog 46 #[.pointer (some ⟨g, 0, none⟩), .string ⟨#[59]⟩] w fun r w' => r = .returned (.tuple #[]) ∧ Sat W0 w' (psB g A0 c0 all.length (wantP s4 (bs [59])) :: tkR A0 c0 all :: L) from want_callsP h4 HS (bs [59]))
    have hR_ := Aside0.mk hR
    clear hR h4 h2 h3
    go_enter Tryd.func24, Tryd.ntmps24
    go_upto_region 1 with (first | ((with_reducible refine gate_dst (N := 4) rfl ?_); go_must (refine ev_box HS rfl (N := 4) rfl (cs := #[.string ⟨#[]⟩, .int .i64 0, .int .i64 0, .int .i64 0, .int .i64 0]) (t := 75) ?hrun ?_); (case hrun => first | (go_simp; done) | (go_simp; rfl)); clear HS; intro g4 w HS; replace HS := rot3 HS))
    go_upto_region 2 with (first | ((try (refine gate_guard (by rfl) ?_; dsimp only)); go_at_call 22; (first | (with_reducible refine (HNW.out _ _ HS).mono ?_)); rintro e_ w_ ⟨rfl, HS_⟩; clear HS; have HS := HS_; clear HS_) | ((try (refine gate_guard (by rfl) ?_; dsimp only)); go_at_call 45; (first | (with_reducible refine (HNM.out _ _ HS).mono ?_)); rintro e_ w_ ⟨rfl, HS_⟩; clear HS; have HS := HS_; clear HS_) | ((with_reducible refine gate_dst (N := 5) rfl ?_); go_must (refine ev_box HS rfl (N := 5) rfl (cs := #[.string ⟨#[]⟩, .int .i64 0, .int .i64 0, .int .i64 0, .int .i64 0]) (t := 75) ?hrun ?_); (case hrun => first | (go_simp; done) | (go_simp; rfl)); clear HS; intro g5 w HS; replace HS := rot3 HS) | ((with_reducible refine gate_store (t := 75) (p := 5) rfl ?_); go_must (refine ev_store HS 2 rfl rfl 75 (.tmp 5) (.tmp 13) rfl rfl rfl [.string nm, .int .i64 kind, .int .i64 0, .int .i64 t.f3.f0, .int .i64 t.f3.f1] ?hx (by kernel_rfl) (by rfl) ?h1 ?_); (case hx => first | rfl | (go_simp; done)); (case h1 => simp [Value.oneCell']); clear HS; intro w HS))
    go_upto_region 3 with (first | ((try (refine gate_guard (by rfl) ?_; dsimp only)); go_at_call 23; (first | (with_reducible refine (HT1.out _ _ HS).mono ?_)); rintro e_ w_ ⟨rfl, HS_⟩; clear HS; have HS := HS_; clear HS_))
    go_upto_region 5 with (first | ((try (refine gate_guard (by rfl) ?_; dsimp only)); go_at_call 22; (first | (with_reducible refine (HNX.out _ _ HS).mono ?_)); rintro e_ w_ ⟨rfl, HS_⟩; clear HS; have HS := HS_; clear HS_) | ((with_reducible refine gate_dst (N := 6) rfl ?_); go_must (refine ev_box HS rfl (N := 6) rfl (cs := #[.int .i64 0, .string ⟨#[]⟩, .int .i64 0, .int .i64 0, .int .i64 0]) (t := 71) ?hrun ?_); (case hrun => first | (go_simp; done) | (go_simp; rfl)); clear HS; intro g6 w HS; replace HS := rot3 HS) | ((with_reducible refine gate_store (t := 71) (p := 6) rfl ?_); go_must (refine ev_store HS 2 rfl rfl 71 (.tmp 6) (.tmp 17) rfl rfl rfl [.int .i64 u.f0, .string u.f1, .int .i64 u.f2, .int .i64 u.f3.f0, .int .i64 u.f3.f1] ?hx (by kernel_rfl) (by rfl) ?h1 ?_); (case hx => first | rfl | (go_simp; done)); (case h1 => simp [Value.oneCell']); clear HS; intro w HS))
    go_upto_region 6 with (first | ((try (refine gate_guard (by rfl) ?_; dsimp only)); go_at_call 21; (first | (with_reducible refine (HBD.out _ _ HS).mono ?_)); rintro e_ w_ ⟨rfl, HS_⟩; clear HS; have HS := HS_; clear HS_))
    have cb0 := HS.cell 2 rfl
    go_wp2_with (first | ((try (refine gate_guard (by rfl) ?_; dsimp only)); go_at_call 26; (first | (with_reducible refine (HFL.out _ _ HS).mono ?_)); rintro e_ w_ ⟨rfl, HS_⟩; clear HS; have HS := HS_; clear HS_) | ((try (refine gate_guard (by rfl) ?_; dsimp only)); go_at_call 46; (first | (with_reducible refine (HW1.out _ _ HS).mono ?_) | (with_reducible refine (HW2.out _ _ HS).mono ?_)); rintro e_ w_ ⟨rfl, HS_⟩; clear HS; have HS := HS_; clear HS_) | ((with_reducible refine gate_dst (N := 46) rfl ?_); (with_reducible refine gate_load (ty := 75) (p := 5) rfl ?_); (try (refine gate_guard (by rfl) ?_; dsimp only)); go_must (refine ev_load HS 3 rfl rfl 75 (.tmp 5) rfl (N := 46) rfl rfl _ Tryd.underlying75 rfl (by kernel_rfl) ?_)) | ((with_reducible refine gate_store (t := 75) (p := 4) rfl ?_); go_must (refine ev_store HS 4 rfl rfl 75 (.tmp 4) (.tmp 46) rfl rfl rfl [.string nm, .int .i64 kind, .int .i64 0, .int .i64 t.f3.f0, .int .i64 t.f3.f1] ?hx (by kernel_rfl) (by rfl) ?h1 ?_); (case hx => first | rfl | (go_simp; done)); (case h1 => simp [Value.oneCell']); clear HS; intro w HS))
    refine ret_row HS 4 rfl (p := 4) rfl rfl _ Tryd.underlying75 rfl (by kernel_rfl) rfl ?_
    replace HS := HS.erase 2
    replace HS := HS.erase 2
    replace HS := HS.erase 2
    rw [hR_.out]
    exact ⟨rfl, HS⟩
  | false =>
  rw [if_neg (by rw [k2]; decide)] at hR
  cases k3 : decide (u.f2 < 1) with
  | true =>
    rw [if_pos (by rw [k3]; rfl)] at hR
    simp only at hR
    have HFL := Aside0.mk (fun (w : World) (L : List Chunk) (HS : Sat W0 w (psB g A0 c0 all.length s2 :: tkR A0 c0 all :: L)) => fail_callsP h2 HS 31)
    have h3 := h2.fail 31
    obtain ⟨s3, hs3⟩ : ∃ x, x = failP s2 31 := ⟨_, rfl⟩
    rw [← hs3] at HFL h3 hR
    clear hs3
    have HW1 := Aside0.mk (fun (w : World) (L : List Chunk) (HS : Sat W0 w (psB g A0 c0 all.length s3 :: tkR A0 c0 all :: L)) => show Calls Tryd.prog 46 #[.pointer (some ⟨g, 0, none⟩), .string ⟨#[93]⟩] w fun r w' => r = .returned (.tuple #[]) ∧ Sat W0 w' (psB g A0 c0 all.length (wantP s3 (bs [93])) :: tkR A0 c0 all :: L) from want_callsP h3 HS (bs [93]))
    have h4 := h3.want (bs [93])
    obtain ⟨s4, hs4⟩ : ∃ x, x = wantP s3 (bs [93]) := ⟨_, rfl⟩
    rw [← hs4] at HW1 h4 hR
    clear hs4
    have HW2 := Aside0.mk (fun (w : World) (L : List Chunk) (HS : Sat W0 w (psB g A0 c0 all.length s4 :: tkR A0 c0 all :: L)) => show Calls Tryd.prog 46 #[.pointer (some ⟨g, 0, none⟩), .string ⟨#[59]⟩] w fun r w' => r = .returned (.tuple #[]) ∧ Sat W0 w' (psB g A0 c0 all.length (wantP s4 (bs [59])) :: tkR A0 c0 all :: L) from want_callsP h4 HS (bs [59]))
    have hR_ := Aside0.mk hR
    clear hR h4 h2 h3
    go_enter Tryd.func24, Tryd.ntmps24
    go_upto_region 1 with (first | ((with_reducible refine gate_dst (N := 4) rfl ?_); go_must (refine ev_box HS rfl (N := 4) rfl (cs := #[.string ⟨#[]⟩, .int .i64 0, .int .i64 0, .int .i64 0, .int .i64 0]) (t := 75) ?hrun ?_); (case hrun => first | (go_simp; done) | (go_simp; rfl)); clear HS; intro g4 w HS; replace HS := rot3 HS))
    go_upto_region 2 with (first | ((try (refine gate_guard (by rfl) ?_; dsimp only)); go_at_call 22; (first | (with_reducible refine (HNW.out _ _ HS).mono ?_)); rintro e_ w_ ⟨rfl, HS_⟩; clear HS; have HS := HS_; clear HS_) | ((try (refine gate_guard (by rfl) ?_; dsimp only)); go_at_call 45; (first | (with_reducible refine (HNM.out _ _ HS).mono ?_)); rintro e_ w_ ⟨rfl, HS_⟩; clear HS; have HS := HS_; clear HS_) | ((with_reducible refine gate_dst (N := 5) rfl ?_); go_must (refine ev_box HS rfl (N := 5) rfl (cs := #[.string ⟨#[]⟩, .int .i64 0, .int .i64 0, .int .i64 0, .int .i64 0]) (t := 75) ?hrun ?_); (case hrun => first | (go_simp; done) | (go_simp; rfl)); clear HS; intro g5 w HS; replace HS := rot3 HS) | ((with_reducible refine gate_store (t := 75) (p := 5) rfl ?_); go_must (refine ev_store HS 2 rfl rfl 75 (.tmp 5) (.tmp 13) rfl rfl rfl [.string nm, .int .i64 kind, .int .i64 0, .int .i64 t.f3.f0, .int .i64 t.f3.f1] ?hx (by kernel_rfl) (by rfl) ?h1 ?_); (case hx => first | rfl | (go_simp; done)); (case h1 => simp [Value.oneCell']); clear HS; intro w HS))
    go_upto_region 3 with (first | ((try (refine gate_guard (by rfl) ?_; dsimp only)); go_at_call 23; (first | (with_reducible refine (HT1.out _ _ HS).mono ?_)); rintro e_ w_ ⟨rfl, HS_⟩; clear HS; have HS := HS_; clear HS_))
    go_upto_region 5 with (first | ((try (refine gate_guard (by rfl) ?_; dsimp only)); go_at_call 22; (first | (with_reducible refine (HNX.out _ _ HS).mono ?_)); rintro e_ w_ ⟨rfl, HS_⟩; clear HS; have HS := HS_; clear HS_) | ((with_reducible refine gate_dst (N := 6) rfl ?_); go_must (refine ev_box HS rfl (N := 6) rfl (cs := #[.int .i64 0, .string ⟨#[]⟩, .int .i64 0, .int .i64 0, .int .i64 0]) (t := 71) ?hrun ?_); (case hrun => first | (go_simp; done) | (go_simp; rfl)); clear HS; intro g6 w HS; replace HS := rot3 HS) | ((with_reducible refine gate_store (t := 71) (p := 6) rfl ?_); go_must (refine ev_store HS 2 rfl rfl 71 (.tmp 6) (.tmp 17) rfl rfl rfl [.int .i64 u.f0, .string u.f1, .int .i64 u.f2, .int .i64 u.f3.f0, .int .i64 u.f3.f1] ?hx (by kernel_rfl) (by rfl) ?h1 ?_); (case hx => first | rfl | (go_simp; done)); (case h1 => simp [Value.oneCell']); clear HS; intro w HS))
    go_upto_region 6 with (first | ((try (refine gate_guard (by rfl) ?_; dsimp only)); go_at_call 21; (first | (with_reducible refine (HBD.out _ _ HS).mono ?_)); rintro e_ w_ ⟨rfl, HS_⟩; clear HS; have HS := HS_; clear HS_))
    have cb0 := HS.cell 2 rfl
    go_wp2_with (first | ((try (refine gate_guard (by rfl) ?_; dsimp only)); go_at_call 26; (first | (with_reducible refine (HFL.out _ _ HS).mono ?_)); rintro e_ w_ ⟨rfl, HS_⟩; clear HS; have HS := HS_; clear HS_) | ((try (refine gate_guard (by rfl) ?_; dsimp only)); go_at_call 46; (first | (with_reducible refine (HW1.out _ _ HS).mono ?_) | (with_reducible refine (HW2.out _ _ HS).mono ?_)); rintro e_ w_ ⟨rfl, HS_⟩; clear HS; have HS := HS_; clear HS_) | ((with_reducible refine gate_dst (N := 46) rfl ?_); (with_reducible refine gate_load (ty := 75) (p := 5) rfl ?_); (try (refine gate_guard (by rfl) ?_; dsimp only)); go_must (refine ev_load HS 3 rfl rfl 75 (.tmp 5) rfl (N := 46) rfl rfl _ Tryd.underlying75 rfl (by kernel_rfl) ?_)) | ((with_reducible refine gate_store (t := 75) (p := 4) rfl ?_); go_must (refine ev_store HS 4 rfl rfl 75 (.tmp 4) (.tmp 46) rfl rfl rfl [.string nm, .int .i64 kind, .int .i64 0, .int .i64 t.f3.f0, .int .i64 t.f3.f1] ?hx (by kernel_rfl) (by rfl) ?h1 ?_); (case hx => first | rfl | (go_simp; done)); (case h1 => simp [Value.oneCell']); clear HS; intro w HS))
    refine ret_row HS 4 rfl (p := 4) rfl rfl _ Tryd.underlying75 rfl (by kernel_rfl) rfl ?_
    replace HS := HS.erase 2
    replace HS := HS.erase 2
    replace HS := HS.erase 2
    rw [hR_.out]
    exact ⟨rfl, HS⟩
  | false =>
  cases k4 : decide (4096 < u.f2) with
  | true =>
    rw [if_pos (by rw [k3, k4]; rfl)] at hR
    simp only at hR
    have HFL := Aside0.mk (fun (w : World) (L : List Chunk) (HS : Sat W0 w (psB g A0 c0 all.length s2 :: tkR A0 c0 all :: L)) => fail_callsP h2 HS 31)
    have h3 := h2.fail 31
    obtain ⟨s3, hs3⟩ : ∃ x, x = failP s2 31 := ⟨_, rfl⟩
    rw [← hs3] at HFL h3 hR
    clear hs3
    have HW1 := Aside0.mk (fun (w : World) (L : List Chunk) (HS : Sat W0 w (psB g A0 c0 all.length s3 :: tkR A0 c0 all :: L)) => show Calls Tryd.prog 46 #[.pointer (some ⟨g, 0, none⟩), .string ⟨#[93]⟩] w fun r w' => r = .returned (.tuple #[]) ∧ Sat W0 w' (psB g A0 c0 all.length (wantP s3 (bs [93])) :: tkR A0 c0 all :: L) from want_callsP h3 HS (bs [93]))
    have h4 := h3.want (bs [93])
    obtain ⟨s4, hs4⟩ : ∃ x, x = wantP s3 (bs [93]) := ⟨_, rfl⟩
    rw [← hs4] at HW1 h4 hR
    clear hs4
    have HW2 := Aside0.mk (fun (w : World) (L : List Chunk) (HS : Sat W0 w (psB g A0 c0 all.length s4 :: tkR A0 c0 all :: L)) => show Calls Tryd.prog 46 #[.pointer (some ⟨g, 0, none⟩), .string ⟨#[59]⟩] w fun r w' => r = .returned (.tuple #[]) ∧ Sat W0 w' (psB g A0 c0 all.length (wantP s4 (bs [59])) :: tkR A0 c0 all :: L) from want_callsP h4 HS (bs [59]))
    have hR_ := Aside0.mk hR
    clear hR h4 h2 h3
    go_enter Tryd.func24, Tryd.ntmps24
    go_upto_region 1 with (first | ((with_reducible refine gate_dst (N := 4) rfl ?_); go_must (refine ev_box HS rfl (N := 4) rfl (cs := #[.string ⟨#[]⟩, .int .i64 0, .int .i64 0, .int .i64 0, .int .i64 0]) (t := 75) ?hrun ?_); (case hrun => first | (go_simp; done) | (go_simp; rfl)); clear HS; intro g4 w HS; replace HS := rot3 HS))
    go_upto_region 2 with (first | ((try (refine gate_guard (by rfl) ?_; dsimp only)); go_at_call 22; (first | (with_reducible refine (HNW.out _ _ HS).mono ?_)); rintro e_ w_ ⟨rfl, HS_⟩; clear HS; have HS := HS_; clear HS_) | ((try (refine gate_guard (by rfl) ?_; dsimp only)); go_at_call 45; (first | (with_reducible refine (HNM.out _ _ HS).mono ?_)); rintro e_ w_ ⟨rfl, HS_⟩; clear HS; have HS := HS_; clear HS_) | ((with_reducible refine gate_dst (N := 5) rfl ?_); go_must (refine ev_box HS rfl (N := 5) rfl (cs := #[.string ⟨#[]⟩, .int .i64 0, .int .i64 0, .int .i64 0, .int .i64 0]) (t := 75) ?hrun ?_); (case hrun => first | (go_simp; done) | (go_simp; rfl)); clear HS; intro g5 w HS; replace HS := rot3 HS) | ((with_reducible refine gate_store (t := 75) (p := 5) rfl ?_); go_must (refine ev_store HS 2 rfl rfl 75 (.tmp 5) (.tmp 13) rfl rfl rfl [.string nm, .int .i64 kind, .int .i64 0, .int .i64 t.f3.f0, .int .i64 t.f3.f1] ?hx (by kernel_rfl) (by rfl) ?h1 ?_); (case hx => first | rfl | (go_simp; done)); (case h1 => simp [Value.oneCell']); clear HS; intro w HS))
    go_upto_region 3 with (first | ((try (refine gate_guard (by rfl) ?_; dsimp only)); go_at_call 23; (first | (with_reducible refine (HT1.out _ _ HS).mono ?_)); rintro e_ w_ ⟨rfl, HS_⟩; clear HS; have HS := HS_; clear HS_))
    go_upto_region 5 with (first | ((try (refine gate_guard (by rfl) ?_; dsimp only)); go_at_call 22; (first | (with_reducible refine (HNX.out _ _ HS).mono ?_)); rintro e_ w_ ⟨rfl, HS_⟩; clear HS; have HS := HS_; clear HS_) | ((with_reducible refine gate_dst (N := 6) rfl ?_); go_must (refine ev_box HS rfl (N := 6) rfl (cs := #[.int .i64 0, .string ⟨#[]⟩, .int .i64 0, .int .i64 0, .int .i64 0]) (t := 71) ?hrun ?_); (case hrun => first | (go_simp; done) | (go_simp; rfl)); clear HS; intro g6 w HS; replace HS := rot3 HS) | ((with_reducible refine gate_store (t := 71) (p := 6) rfl ?_); go_must (refine ev_store HS 2 rfl rfl 71 (.tmp 6) (.tmp 17) rfl rfl rfl [.int .i64 u.f0, .string u.f1, .int .i64 u.f2, .int .i64 u.f3.f0, .int .i64 u.f3.f1] ?hx (by kernel_rfl) (by rfl) ?h1 ?_); (case hx => first | rfl | (go_simp; done)); (case h1 => simp [Value.oneCell']); clear HS; intro w HS))
    go_upto_region 6 with (first | ((try (refine gate_guard (by rfl) ?_; dsimp only)); go_at_call 21; (first | (with_reducible refine (HBD.out _ _ HS).mono ?_)); rintro e_ w_ ⟨rfl, HS_⟩; clear HS; have HS := HS_; clear HS_))
    have cb0 := HS.cell 2 rfl
    go_wp2_with (first | ((try (refine gate_guard (by rfl) ?_; dsimp only)); go_at_call 26; (first | (with_reducible refine (HFL.out _ _ HS).mono ?_)); rintro e_ w_ ⟨rfl, HS_⟩; clear HS; have HS := HS_; clear HS_) | ((try (refine gate_guard (by rfl) ?_; dsimp only)); go_at_call 46; (first | (with_reducible refine (HW1.out _ _ HS).mono ?_) | (with_reducible refine (HW2.out _ _ HS).mono ?_)); rintro e_ w_ ⟨rfl, HS_⟩; clear HS; have HS := HS_; clear HS_) | ((with_reducible refine gate_dst (N := 46) rfl ?_); (with_reducible refine gate_load (ty := 75) (p := 5) rfl ?_); (try (refine gate_guard (by rfl) ?_; dsimp only)); go_must (refine ev_load HS 3 rfl rfl 75 (.tmp 5) rfl (N := 46) rfl rfl _ Tryd.underlying75 rfl (by kernel_rfl) ?_)) | ((with_reducible refine gate_store (t := 75) (p := 4) rfl ?_); go_must (refine ev_store HS 4 rfl rfl 75 (.tmp 4) (.tmp 46) rfl rfl rfl [.string nm, .int .i64 kind, .int .i64 0, .int .i64 t.f3.f0, .int .i64 t.f3.f1] ?hx (by kernel_rfl) (by rfl) ?h1 ?_); (case hx => first | rfl | (go_simp; done)); (case h1 => simp [Value.oneCell']); clear HS; intro w HS))
    refine ret_row HS 4 rfl (p := 4) rfl rfl _ Tryd.underlying75 rfl (by kernel_rfl) rfl ?_
    replace HS := HS.erase 2
    replace HS := HS.erase 2
    replace HS := HS.erase 2
    rw [hR_.out]
    exact ⟨rfl, HS⟩
  | false =>
    rw [if_neg (by rw [k3, k4]; decide)] at hR
    simp only at hR
    have HSK := Aside0.mk (fun (w : World) (L : List Chunk) (HS : Sat W0 w (psB g A0 c0 all.length s2 :: tkR A0 c0 all :: L)) => show Calls Tryd.prog 44 #[.pointer (some ⟨g, 0, none⟩)] w _ from skip_callsP h2 HS)
    try unfold tkA at HSK
    have h3 := h2.skip
    obtain ⟨s3, hs3⟩ : ∃ x, x = skipP s2 := ⟨_, rfl⟩
    rw [← hs3] at HSK h3 hR
    clear hs3
    rw [← HU.out] at HSK
    have HW1 := Aside0.mk (fun (w : World) (L : List Chunk) (HS : Sat W0 w (psB g A0 c0 all.length s3 :: tkR A0 c0 all :: L)) => show Calls Tryd.prog 46 #[.pointer (some ⟨g, 0, none⟩), .string ⟨#[93]⟩] w fun r w' => r = .returned (.tuple #[]) ∧ Sat W0 w' (psB g A0 c0 all.length (wantP s3 (bs [93])) :: tkR A0 c0 all :: L) from want_callsP h3 HS (bs [93]))
    have h4 := h3.want (bs [93])
    obtain ⟨s4, hs4⟩ : ∃ x, x = wantP s3 (bs [93]) := ⟨_, rfl⟩
    rw [← hs4] at HW1 h4 hR
    clear hs4
    have HW2 := Aside0.mk (fun (w : World) (L : List Chunk) (HS : Sat W0 w (psB g A0 c0 all.length s4 :: tkR A0 c0 all :: L)) => show Calls Tryd.prog 46 #[.pointer (some ⟨g, 0, none⟩), .string ⟨#[59]⟩] w fun r w' => r = .returned (.tuple #[]) ∧ Sat W0 w' (psB g A0 c0 all.length (wantP s4 (bs [59])) :: tkR A0 c0 all :: L) from want_callsP h4 HS (bs [59]))
    have hR_ := Aside0.mk hR
    clear hR h4 h2 h3
    go_enter Tryd.func24, Tryd.ntmps24
    go_upto_region 1 with (first | ((with_reducible refine gate_dst (N := 4) rfl ?_); go_must (refine ev_box HS rfl (N := 4) rfl (cs := #[.string ⟨#[]⟩, .int .i64 0, .int .i64 0, .int .i64 0, .int .i64 0]) (t := 75) ?hrun ?_); (case hrun => first | (go_simp; done) | (go_simp; rfl)); clear HS; intro g4 w HS; replace HS := rot3 HS))
    go_upto_region 2 with (first | ((try (refine gate_guard (by rfl) ?_; dsimp only)); go_at_call 22; (first | (with_reducible refine (HNW.out _ _ HS).mono ?_)); rintro e_ w_ ⟨rfl, HS_⟩; clear HS; have HS := HS_; clear HS_) | ((try (refine gate_guard (by rfl) ?_; dsimp only)); go_at_call 45; (first | (with_reducible refine (HNM.out _ _ HS).mono ?_)); rintro e_ w_ ⟨rfl, HS_⟩; clear HS; have HS := HS_; clear HS_) | ((with_reducible refine gate_dst (N := 5) rfl ?_); go_must (refine ev_box HS rfl (N := 5) rfl (cs := #[.string ⟨#[]⟩, .int .i64 0, .int .i64 0, .int .i64 0, .int .i64 0]) (t := 75) ?hrun ?_); (case hrun => first | (go_simp; done) | (go_simp; rfl)); clear HS; intro g5 w HS; replace HS := rot3 HS) | ((with_reducible refine gate_store (t := 75) (p := 5) rfl ?_); go_must (refine ev_store HS 2 rfl rfl 75 (.tmp 5) (.tmp 13) rfl rfl rfl [.string nm, .int .i64 kind, .int .i64 0, .int .i64 t.f3.f0, .int .i64 t.f3.f1] ?hx (by kernel_rfl) (by rfl) ?h1 ?_); (case hx => first | rfl | (go_simp; done)); (case h1 => simp [Value.oneCell']); clear HS; intro w HS))
    go_upto_region 3 with (first | ((try (refine gate_guard (by rfl) ?_; dsimp only)); go_at_call 23; (first | (with_reducible refine (HT1.out _ _ HS).mono ?_)); rintro e_ w_ ⟨rfl, HS_⟩; clear HS; have HS := HS_; clear HS_))
    go_upto_region 5 with (first | ((try (refine gate_guard (by rfl) ?_; dsimp only)); go_at_call 22; (first | (with_reducible refine (HNX.out _ _ HS).mono ?_)); rintro e_ w_ ⟨rfl, HS_⟩; clear HS; have HS := HS_; clear HS_) | ((with_reducible refine gate_dst (N := 6) rfl ?_); go_must (refine ev_box HS rfl (N := 6) rfl (cs := #[.int .i64 0, .string ⟨#[]⟩, .int .i64 0, .int .i64 0, .int .i64 0]) (t := 71) ?hrun ?_); (case hrun => first | (go_simp; done) | (go_simp; rfl)); clear HS; intro g6 w HS; replace HS := rot3 HS) | ((with_reducible refine gate_store (t := 71) (p := 6) rfl ?_); go_must (refine ev_store HS 2 rfl rfl 71 (.tmp 6) (.tmp 17) rfl rfl rfl [.int .i64 u.f0, .string u.f1, .int .i64 u.f2, .int .i64 u.f3.f0, .int .i64 u.f3.f1] ?hx (by kernel_rfl) (by rfl) ?h1 ?_); (case hx => first | rfl | (go_simp; done)); (case h1 => simp [Value.oneCell']); clear HS; intro w HS))
    go_upto_region 6 with (first | ((try (refine gate_guard (by rfl) ?_; dsimp only)); go_at_call 21; (first | (with_reducible refine (HBD.out _ _ HS).mono ?_)); rintro e_ w_ ⟨rfl, HS_⟩; clear HS; have HS := HS_; clear HS_))
    have cb0 := HS.cell 2 rfl
    go_wp2_with (first | ((try (refine gate_guard (by rfl) ?_; dsimp only)); go_at_call 44; (first | (with_reducible refine (HSK.out _ _ HS).mono ?_)); rintro e_ w_ ⟨rfl, HS_⟩; clear HS; have HS := HS_; clear HS_) | ((with_reducible refine gate_store (t := 3) (p := 21) rfl ?_); go_must (refine ev_storeN HS 3 rfl rfl 2 3 (.tmp 21) (.tmp 20) rfl rfl rfl (.int .i64 u.f2) ?hv [.int .i64 u.f2] rfl (by kernel_rfl) (by simp) ?h1 #[.string nm, .int .i64 kind, .int .i64 u.f2, .int .i64 t.f3.f0, .int .i64 t.f3.f1] rfl ?_); (case hv => first | rfl | (go_simp; done) | (go_simp; rfl)); (case h1 => simp [Value.oneCell']); clear HS; intro w HS) | ((try (refine gate_guard (by rfl) ?_; dsimp only)); go_at_call 46; (first | (with_reducible refine (HW1.out _ _ HS).mono ?_) | (with_reducible refine (HW2.out _ _ HS).mono ?_)); rintro e_ w_ ⟨rfl, HS_⟩; clear HS; have HS := HS_; clear HS_) | ((with_reducible refine gate_dst (N := 46) rfl ?_); (with_reducible refine gate_load (ty := 75) (p := 5) rfl ?_); (try (refine gate_guard (by rfl) ?_; dsimp only)); go_must (refine ev_load HS 3 rfl rfl 75 (.tmp 5) rfl (N := 46) rfl rfl _ Tryd.underlying75 rfl (by kernel_rfl) ?_)) | ((with_reducible refine gate_store (t := 75) (p := 4) rfl ?_); go_must (refine ev_store HS 4 rfl rfl 75 (.tmp 4) (.tmp 46) rfl rfl rfl [.string nm, .int .i64 kind, .int .i64 u.f2, .int .i64 t.f3.f0, .int .i64 t.f3.f1] ?hx (by kernel_rfl) (by rfl) ?h1 ?_); (case hx => first | rfl | (go_simp; done)); (case h1 => simp [Value.oneCell']); clear HS; intro w HS))
    refine ret_row HS 4 rfl (p := 4) rfl rfl _ Tryd.underlying75 rfl (by kernel_rfl) rfl ?_
    replace HS := HS.erase 2
    replace HS := HS.erase 2
    replace HS := HS.erase 2
    rw [hR_.out]
    exact ⟨rfl, HS⟩
end Go.Proofs.YtenkganofobioaaDoor.B
