/- Parsing: choice. -/
import Derived.Test.YtenkganofobioaaDoorPaTurn
namespace Go.Proofs.YtenkganofobioaaDoor.B
open Go.RowKit Go.Proofs.YtenkganofobioaaDoor.Mine Go.Proofs.YtenkganofobioaaDoor.Sep Go.Proofs.YtenkganofobioaaDoorW.PrintWords Go.Proofs.YtenkganofobioaaDoorW.PrintLast Go.Proofs.YtenkganofobioaaDoorW.PrintMore
set_option linter.unusedVariables false
set_option linter.unusedSimpArgs false
attribute [local go_sem] Instr.field asAgg
set_option maxRecDepth 100000 in
set_option maxHeartbeats 8000000 in
theorem choice_walk {all : List TK} {F : Fns} (hF : FKeep all F) (hW : ExC all 73 [] F.whole) (hB : BlD all 47 [] F.block) (hC : StE all 74 F.choice) : StE all 74 (choiceP F) := by
  intro W0 w L g A0 c0 at_ s e s' hG ho h hp HS
  have HOLD := Aside0.mk ho
  have HGL := Aside0.mk hG
  clear hG ho
  unfold choiceP at hp
  cases he : F.whole s with
  | none => rw [he] at hp; cases hp
  | some r_ =>
  obtain ⟨e1, s1⟩ := r_
  rw [he] at hp
  simp only at hp
  have h1 := (hF.whole _ _ _ h he).1
  have HWH := Aside0.mk (fun (w : World) (M : List Chunk) (hM : OldIn W0 M) (HS : Sat W0 w (psB g A0 c0 all.length s :: tkR A0 c0 all :: M)) => ex_d hW W0 w M g A0 c0 s e1 s1 HGL.out hM h he HS)
  cases hb : F.block s1 with
  | none => rw [hb] at hp; cases hp
  | some r_ =>
  obtain ⟨b1, s2⟩ := r_
  rw [hb] at hp
  simp only at hp
  have h2 := (hF.block _ _ _ h1 hb).1
  have HBL := Aside0.mk (fun (w : World) (M : List Chunk) (hM : OldIn W0 M) (HS : Sat W0 w (psB g A0 c0 all.length s1 :: tkR A0 c0 all :: M)) => hB W0 w M g A0 c0 s1 b1 s2 HGL.out hM h1 hb HS)
  clear he hb h h1
  cases ht : (takeP s2 (bs [101, 108, 115, 101])).1 with
  | false =>
    rw [if_neg (by rw [ht]; decide)] at hp
    obtain ⟨rfl, rfl⟩ := pair_inj hp
    have HT1 := Aside0.mk (fun (w : World) (L : List Chunk) (HS : Sat W0 w (psB g A0 c0 all.length s2 :: tkR A0 c0 all :: L)) => show Calls Tryd.prog 23 #[.pointer (some ⟨g, 0, none⟩), .string ⟨#[101, 108, 115, 101]⟩] w fun r w' => r = .returned (.bool false) ∧ Sat W0 w' (psB g A0 c0 all.length s2 :: tkR A0 c0 all :: L) from take_no h2 ht HS)
    clear hp ht h2 hF hW hB hC
    go_enter Tryd.func74, Tryd.ntmps74
    go_upto_region 1 with (first | ((with_reducible refine gate_dst (N := 3) rfl ?_); go_must (refine ev_box HS rfl (N := 3) rfl (cs := #[.int .i64 0, .int .i64 at_.f0, .int .i64 at_.f1, .string ⟨#[]⟩, .slice none 0 0, .slice none 0 0, .slice none 0 0]) (t := 45) ?hrun ?_); (case hrun => first | (go_simp; done) | (go_simp; rfl)); clear HS; intro g3 w HS; replace HS := rot3 HS) | ((with_reducible refine gate_dst (N := 4) rfl ?_); go_must (refine ev_box HS rfl (N := 4) rfl (cs := #[.int .i64 0, .int .i64 0, .int .i64 0, .string ⟨#[]⟩, .slice none 0 0, .slice none 0 0, .slice none 0 0]) (t := 45) ?hrun ?_); (case hrun => first | (go_simp; done) | (go_simp; rfl)); clear HS; intro g4 w HS; replace HS := rot3 HS))
    go_upto_region 3 with (first | ((try (refine gate_guard (by rfl) ?_; dsimp only)); go_at_call 73; refine (HWH.out _ _ (by repeat (first | exact HOLD.out | apply OldIn.cons)) HS).mono ?_; rintro e_ w_ ⟨eA, en, ec, rfl, HS_⟩; clear HS; have HS := HS_; clear HS_; replace HS := rot3 HS) | ((with_reducible refine gate_dst (N := 8) rfl ?_); go_must (refine ev_litb HS rfl (N := 8) rfl (cs := ((exA e1 (.slice eA en ec))).toArray) (e := 51) (n := 1) ?hrun ?_); (case hrun => first | (go_simp; done) | (go_simp; rfl)); clear HS; intro g8 w HS; replace HS := rot3 HS) | ((with_reducible refine gate_store (t := 42) (p := 9) rfl ?_); go_must (refine ev_storeN HS 5 rfl rfl 0 42 (.tmp 9) (.const (.int .i64 4)) rfl rfl rfl (.int .i64 4) ?hv [.int .i64 4] rfl (by kernel_rfl) (by simp) ?h1 #[.int .i64 4, .int .i64 at_.f0, .int .i64 at_.f1, .string ⟨#[]⟩, .slice none 0 0, .slice none 0 0, .slice none 0 0] rfl ?_); (case hv => first | rfl | (go_simp; done) | (go_simp; rfl)); (case h1 => simp [Value.oneCell']); clear HS; intro w HS) | ((with_reducible refine gate_store (t := 43) (p := 10) rfl ?_); go_must (refine ev_storeN HS 5 rfl rfl 4 43 (.tmp 10) (.tmp 8) rfl rfl rfl (.slice (some ⟨g8, 0, none⟩) 1 1) ?hv [.slice (some ⟨g8, 0, none⟩) 1 1] rfl (by kernel_rfl) (by simp) ?h1 #[.int .i64 4, .int .i64 at_.f0, .int .i64 at_.f1, .string ⟨#[]⟩, .slice (some ⟨g8, 0, none⟩) 1 1, .slice none 0 0, .slice none 0 0] rfl ?_); (case hv => first | rfl | (go_simp; done) | (go_simp; rfl)); (case h1 => simp [Value.oneCell']); clear HS; intro w HS) | ((try (refine gate_guard (by rfl) ?_; dsimp only)); go_at_call 47; refine (HBL.out _ _ (by repeat (first | exact HOLD.out | apply OldIn.cons)) HS).mono ?_; rintro e_ w_ ⟨bA, bn, bc, rfl, HS_⟩; clear HS; have HS := HS_; clear HS_; replace HS := rot3 HS) | ((with_reducible refine gate_store (t := 39) (p := 13) rfl ?_); go_must (refine ev_storeN HS 6 rfl rfl 5 39 (.tmp 13) (.tmp 12) rfl rfl rfl (.slice bA bn bc) ?hv [.slice bA bn bc] rfl (by kernel_rfl) (by simp) ?h1 #[.int .i64 4, .int .i64 at_.f0, .int .i64 at_.f1, .string ⟨#[]⟩, .slice (some ⟨g8, 0, none⟩) 1 1, .slice bA bn bc, .slice none 0 0] rfl ?_); (case hv => first | rfl | (go_simp; done) | (go_simp; rfl)); (case h1 => simp [Value.oneCell']); clear HS; intro w HS))
    go_wp2_with (first | ((try (refine gate_guard (by rfl) ?_; dsimp only)); go_at_call 23; (first | (with_reducible refine (HT1.out _ _ HS).mono ?_)); rintro e_ w_ ⟨rfl, HS_⟩; clear HS; have HS := HS_; clear HS_) | ((with_reducible refine gate_dst (N := 17) rfl ?_); (with_reducible refine gate_load (ty := 45) (p := 3) rfl ?_); (try (refine gate_guard (by rfl) ?_; dsimp only)); go_must (refine ev_load HS 6 rfl rfl 45 (.tmp 3) rfl (N := 17) rfl rfl _ Tryd.underlying45 rfl (by kernel_rfl) ?_)) | ((with_reducible refine gate_store (t := 45) (p := 4) rfl ?_); go_must (refine ev_store HS 5 rfl rfl 45 (.tmp 4) (.tmp 17) rfl rfl rfl [.int .i64 4, .int .i64 at_.f0, .int .i64 at_.f1, .string ⟨#[]⟩, .slice (some ⟨g8, 0, none⟩) 1 1, .slice bA bn bc, .slice none 0 0] ?hx (by kernel_rfl) (by rfl) ?h1 ?_); (case hx => first | rfl | (go_simp; done)); (case h1 => simp [Value.oneCell']); clear HS; intro w HS))
    refine ret_row HS 5 rfl (p := 4) rfl rfl _ Tryd.underlying45 rfl (by kernel_rfl) rfl ?_
    replace HS := HS.erase 5
    replace HS := HS.erase 5
    replace HS := HS.nil k45 45
    replace HS := HS.front 2 rfl
    replace HS := HS.front 2 rfl
    replace HS := HS.front 2 rfl
    replace HS := HS.front 3 rfl
    replace HS := HS.front 5 rfl
    replace HS := HS.front 5 rfl
    exact ⟨some ⟨g8, 0, none⟩, bA, none, 1, bn, 0, 1, bc, 0, rfl, st_of_rows ⟨4, at_, bs [], [e1], b1, []⟩ (row_one e1 HS)⟩
  | true =>
  rw [if_pos ht] at hp
  obtain ⟨s3, hs_⟩ : ∃ x, x = (takeP s2 (bs [101, 108, 115, 101])).2 := ⟨_, rfl⟩
  have HT1 := Aside0.mk (fun (w : World) (L : List Chunk) (HS : Sat W0 w (psB g A0 c0 all.length s2 :: tkR A0 c0 all :: L)) => show Calls Tryd.prog 23 #[.pointer (some ⟨g, 0, none⟩), .string ⟨#[101, 108, 115, 101]⟩] w fun r w' => r = .returned (.bool true) ∧ Sat W0 w' (psB g A0 c0 all.length (takeP s2 (bs [101, 108, 115, 101])).2 :: tkR A0 c0 all :: L) from take_at h2 ht HS)
  have h3 := h2.take (bs [101, 108, 115, 101])
  rw [← hs_] at HT1 h3 hp
  clear hs_
  clear ht h2
  have HNW := Aside0.mk (fun (w : World) (L : List Chunk) (HS : Sat W0 w (psB g A0 c0 all.length s3 :: tkR A0 c0 all :: L)) => show Calls Tryd.prog 22 #[.pointer (some ⟨g, 0, none⟩)] w _ from now_calls h3 HS)
  try unfold tkA at HNW
  obtain ⟨t, ht⟩ : ∃ t, t = nowP s3 := ⟨_, rfl⟩
  rw [← ht] at HNW hp
  clear ht
  cases ht : (takeP s3 (bs [105, 102])).1 with
  | false =>
    rw [if_neg (by rw [ht]; decide)] at hp
    have HT2 := Aside0.mk (fun (w : World) (L : List Chunk) (HS : Sat W0 w (psB g A0 c0 all.length s3 :: tkR A0 c0 all :: L)) => show Calls Tryd.prog 23 #[.pointer (some ⟨g, 0, none⟩), .string ⟨#[105, 102]⟩] w fun r w' => r = .returned (.bool false) ∧ Sat W0 w' (psB g A0 c0 all.length s3 :: tkR A0 c0 all :: L) from take_no h3 ht HS)
    cases hb : F.block s3 with
    | none => rw [hb] at hp; cases hp
    | some r_ =>
    obtain ⟨b2, s4⟩ := r_
    rw [hb] at hp
    simp only at hp
    obtain ⟨rfl, rfl⟩ := pair_inj hp
    have HB2 := Aside0.mk (fun (w : World) (M : List Chunk) (hM : OldIn W0 M) (HS : Sat W0 w (psB g A0 c0 all.length s3 :: tkR A0 c0 all :: M)) => hB W0 w M g A0 c0 s3 b2 s4 HGL.out hM h3 hb HS)
    clear hp ht h3 hb hF hW hB hC
    go_enter Tryd.func74, Tryd.ntmps74
    go_upto_region 1 with (first | ((with_reducible refine gate_dst (N := 3) rfl ?_); go_must (refine ev_box HS rfl (N := 3) rfl (cs := #[.int .i64 0, .int .i64 at_.f0, .int .i64 at_.f1, .string ⟨#[]⟩, .slice none 0 0, .slice none 0 0, .slice none 0 0]) (t := 45) ?hrun ?_); (case hrun => first | (go_simp; done) | (go_simp; rfl)); clear HS; intro g3 w HS; replace HS := rot3 HS) | ((with_reducible refine gate_dst (N := 4) rfl ?_); go_must (refine ev_box HS rfl (N := 4) rfl (cs := #[.int .i64 0, .int .i64 0, .int .i64 0, .string ⟨#[]⟩, .slice none 0 0, .slice none 0 0, .slice none 0 0]) (t := 45) ?hrun ?_); (case hrun => first | (go_simp; done) | (go_simp; rfl)); clear HS; intro g4 w HS; replace HS := rot3 HS))
    go_upto_region 3 with (first | ((try (refine gate_guard (by rfl) ?_; dsimp only)); go_at_call 73; refine (HWH.out _ _ (by repeat (first | exact HOLD.out | apply OldIn.cons)) HS).mono ?_; rintro e_ w_ ⟨eA, en, ec, rfl, HS_⟩; clear HS; have HS := HS_; clear HS_; replace HS := rot3 HS) | ((with_reducible refine gate_dst (N := 8) rfl ?_); go_must (refine ev_litb HS rfl (N := 8) rfl (cs := ((exA e1 (.slice eA en ec))).toArray) (e := 51) (n := 1) ?hrun ?_); (case hrun => first | (go_simp; done) | (go_simp; rfl)); clear HS; intro g8 w HS; replace HS := rot3 HS) | ((with_reducible refine gate_store (t := 42) (p := 9) rfl ?_); go_must (refine ev_storeN HS 5 rfl rfl 0 42 (.tmp 9) (.const (.int .i64 4)) rfl rfl rfl (.int .i64 4) ?hv [.int .i64 4] rfl (by kernel_rfl) (by simp) ?h1 #[.int .i64 4, .int .i64 at_.f0, .int .i64 at_.f1, .string ⟨#[]⟩, .slice none 0 0, .slice none 0 0, .slice none 0 0] rfl ?_); (case hv => first | rfl | (go_simp; done) | (go_simp; rfl)); (case h1 => simp [Value.oneCell']); clear HS; intro w HS) | ((with_reducible refine gate_store (t := 43) (p := 10) rfl ?_); go_must (refine ev_storeN HS 5 rfl rfl 4 43 (.tmp 10) (.tmp 8) rfl rfl rfl (.slice (some ⟨g8, 0, none⟩) 1 1) ?hv [.slice (some ⟨g8, 0, none⟩) 1 1] rfl (by kernel_rfl) (by simp) ?h1 #[.int .i64 4, .int .i64 at_.f0, .int .i64 at_.f1, .string ⟨#[]⟩, .slice (some ⟨g8, 0, none⟩) 1 1, .slice none 0 0, .slice none 0 0] rfl ?_); (case hv => first | rfl | (go_simp; done) | (go_simp; rfl)); (case h1 => simp [Value.oneCell']); clear HS; intro w HS) | ((try (refine gate_guard (by rfl) ?_; dsimp only)); go_at_call 47; refine (HBL.out _ _ (by repeat (first | exact HOLD.out | apply OldIn.cons)) HS).mono ?_; rintro e_ w_ ⟨bA, bn, bc, rfl, HS_⟩; clear HS; have HS := HS_; clear HS_; replace HS := rot3 HS) | ((with_reducible refine gate_store (t := 39) (p := 13) rfl ?_); go_must (refine ev_storeN HS 6 rfl rfl 5 39 (.tmp 13) (.tmp 12) rfl rfl rfl (.slice bA bn bc) ?hv [.slice bA bn bc] rfl (by kernel_rfl) (by simp) ?h1 #[.int .i64 4, .int .i64 at_.f0, .int .i64 at_.f1, .string ⟨#[]⟩, .slice (some ⟨g8, 0, none⟩) 1 1, .slice bA bn bc, .slice none 0 0] rfl ?_); (case hv => first | rfl | (go_simp; done) | (go_simp; rfl)); (case h1 => simp [Value.oneCell']); clear HS; intro w HS))
    go_wp2_with (first | ((try (refine gate_guard (by rfl) ?_; dsimp only)); go_at_call 23; (first | (with_reducible refine (HT1.out _ _ HS).mono ?_) | (with_reducible refine (HT2.out _ _ HS).mono ?_)); rintro e_ w_ ⟨rfl, HS_⟩; clear HS; have HS := HS_; clear HS_) | ((try (refine gate_guard (by rfl) ?_; dsimp only)); go_at_call 22; (first | (with_reducible refine (HNW.out _ _ HS).mono ?_)); rintro e_ w_ ⟨rfl, HS_⟩; clear HS; have HS := HS_; clear HS_) | ((with_reducible refine gate_dst (N := 5) rfl ?_); go_must (refine ev_box HS rfl (N := 5) rfl (cs := #[.int .i64 0, .int .i64 0]) (t := 32) ?hrun ?_); (case hrun => first | (go_simp; done) | (go_simp; rfl)); clear HS; intro g5 w HS; replace HS := rot3 HS) | ((with_reducible refine gate_store (t := 32) (p := 5) rfl ?_); go_must (refine ev_store HS 2 rfl rfl 32 (.tmp 5) (.tmp 20) rfl rfl rfl [.int .i64 t.f3.f0, .int .i64 t.f3.f1] ?hx (by kernel_rfl) (by rfl) ?h1 ?_); (case hx => first | rfl | (go_simp; done)); (case h1 => simp [Value.oneCell']); clear HS; intro w HS) | ((try (refine gate_guard (by rfl) ?_; dsimp only)); go_at_call 47; refine (HB2.out _ _ (by repeat (first | exact HOLD.out | apply OldIn.cons)) HS).mono ?_; rintro e_ w_ ⟨cA, cn, cc, rfl, HS_⟩; clear HS; have HS := HS_; clear HS_; replace HS := rot3 HS) | ((with_reducible refine gate_store (t := 39) (p := 26) rfl ?_); go_must (refine ev_storeN HS 8 rfl rfl 6 39 (.tmp 26) (.tmp 25) rfl rfl rfl (.slice cA cn cc) ?hv [.slice cA cn cc] rfl (by kernel_rfl) (by simp) ?h1 #[.int .i64 4, .int .i64 at_.f0, .int .i64 at_.f1, .string ⟨#[]⟩, .slice (some ⟨g8, 0, none⟩) 1 1, .slice bA bn bc, .slice cA cn cc] rfl ?_); (case hv => first | rfl | (go_simp; done) | (go_simp; rfl)); (case h1 => simp [Value.oneCell']); clear HS; intro w HS) | ((with_reducible refine gate_dst (N := 27) rfl ?_); (with_reducible refine gate_load (ty := 45) (p := 3) rfl ?_); (try (refine gate_guard (by rfl) ?_; dsimp only)); go_must (refine ev_load HS 8 rfl rfl 45 (.tmp 3) rfl (N := 27) rfl rfl _ Tryd.underlying45 rfl (by kernel_rfl) ?_)) | ((with_reducible refine gate_store (t := 45) (p := 4) rfl ?_); go_must (refine ev_store HS 7 rfl rfl 45 (.tmp 4) (.tmp 27) rfl rfl rfl [.int .i64 4, .int .i64 at_.f0, .int .i64 at_.f1, .string ⟨#[]⟩, .slice (some ⟨g8, 0, none⟩) 1 1, .slice bA bn bc, .slice cA cn cc] ?hx (by kernel_rfl) (by rfl) ?h1 ?_); (case hx => first | rfl | (go_simp; done)); (case h1 => simp [Value.oneCell']); clear HS; intro w HS))
    refine ret_row HS 7 rfl (p := 4) rfl rfl _ Tryd.underlying45 rfl (by kernel_rfl) rfl ?_
    replace HS := HS.erase 3
    replace HS := HS.erase 6
    replace HS := HS.erase 6
    replace HS := HS.front 1 rfl
    replace HS := HS.front 1 rfl
    replace HS := HS.front 2 rfl
    replace HS := HS.front 3 rfl
    replace HS := HS.front 5 rfl
    replace HS := HS.front 5 rfl
    exact ⟨some ⟨g8, 0, none⟩, bA, cA, 1, bn, cn, 1, bc, cc, rfl, st_of_rows ⟨4, at_, bs [], [e1], b1, b2⟩ (row_one e1 HS)⟩
  | true =>
  rw [if_pos ht] at hp
  obtain ⟨s4, hs_⟩ : ∃ x, x = (takeP s3 (bs [105, 102])).2 := ⟨_, rfl⟩
  have HT2 := Aside0.mk (fun (w : World) (L : List Chunk) (HS : Sat W0 w (psB g A0 c0 all.length s3 :: tkR A0 c0 all :: L)) => show Calls Tryd.prog 23 #[.pointer (some ⟨g, 0, none⟩), .string ⟨#[105, 102]⟩] w fun r w' => r = .returned (.bool true) ∧ Sat W0 w' (psB g A0 c0 all.length (takeP s3 (bs [105, 102])).2 :: tkR A0 c0 all :: L) from take_at h3 ht HS)
  have h4 := h3.take (bs [105, 102])
  rw [← hs_] at HT2 h4 hp
  clear hs_
  clear ht h3
  cases hd : (downP s4).1 with
  | false =>
    rw [if_neg (by rw [hd]; decide)] at hp
    obtain ⟨rfl, rfl⟩ := pair_inj hp
    have HDN := Aside0.mk (fun (w : World) (L : List Chunk) (HS : Sat W0 w (psB g A0 c0 all.length s4 :: tkR A0 c0 all :: L)) => down_at h4 hd HS)
    clear hp hd h4 hF hW hB hC
    go_enter Tryd.func74, Tryd.ntmps74
    go_upto_region 1 with (first | ((with_reducible refine gate_dst (N := 3) rfl ?_); go_must (refine ev_box HS rfl (N := 3) rfl (cs := #[.int .i64 0, .int .i64 at_.f0, .int .i64 at_.f1, .string ⟨#[]⟩, .slice none 0 0, .slice none 0 0, .slice none 0 0]) (t := 45) ?hrun ?_); (case hrun => first | (go_simp; done) | (go_simp; rfl)); clear HS; intro g3 w HS; replace HS := rot3 HS) | ((with_reducible refine gate_dst (N := 4) rfl ?_); go_must (refine ev_box HS rfl (N := 4) rfl (cs := #[.int .i64 0, .int .i64 0, .int .i64 0, .string ⟨#[]⟩, .slice none 0 0, .slice none 0 0, .slice none 0 0]) (t := 45) ?hrun ?_); (case hrun => first | (go_simp; done) | (go_simp; rfl)); clear HS; intro g4 w HS; replace HS := rot3 HS))
    go_upto_region 3 with (first | ((try (refine gate_guard (by rfl) ?_; dsimp only)); go_at_call 73; refine (HWH.out _ _ (by repeat (first | exact HOLD.out | apply OldIn.cons)) HS).mono ?_; rintro e_ w_ ⟨eA, en, ec, rfl, HS_⟩; clear HS; have HS := HS_; clear HS_; replace HS := rot3 HS) | ((with_reducible refine gate_dst (N := 8) rfl ?_); go_must (refine ev_litb HS rfl (N := 8) rfl (cs := ((exA e1 (.slice eA en ec))).toArray) (e := 51) (n := 1) ?hrun ?_); (case hrun => first | (go_simp; done) | (go_simp; rfl)); clear HS; intro g8 w HS; replace HS := rot3 HS) | ((with_reducible refine gate_store (t := 42) (p := 9) rfl ?_); go_must (refine ev_storeN HS 5 rfl rfl 0 42 (.tmp 9) (.const (.int .i64 4)) rfl rfl rfl (.int .i64 4) ?hv [.int .i64 4] rfl (by kernel_rfl) (by simp) ?h1 #[.int .i64 4, .int .i64 at_.f0, .int .i64 at_.f1, .string ⟨#[]⟩, .slice none 0 0, .slice none 0 0, .slice none 0 0] rfl ?_); (case hv => first | rfl | (go_simp; done) | (go_simp; rfl)); (case h1 => simp [Value.oneCell']); clear HS; intro w HS) | ((with_reducible refine gate_store (t := 43) (p := 10) rfl ?_); go_must (refine ev_storeN HS 5 rfl rfl 4 43 (.tmp 10) (.tmp 8) rfl rfl rfl (.slice (some ⟨g8, 0, none⟩) 1 1) ?hv [.slice (some ⟨g8, 0, none⟩) 1 1] rfl (by kernel_rfl) (by simp) ?h1 #[.int .i64 4, .int .i64 at_.f0, .int .i64 at_.f1, .string ⟨#[]⟩, .slice (some ⟨g8, 0, none⟩) 1 1, .slice none 0 0, .slice none 0 0] rfl ?_); (case hv => first | rfl | (go_simp; done) | (go_simp; rfl)); (case h1 => simp [Value.oneCell']); clear HS; intro w HS) | ((try (refine gate_guard (by rfl) ?_; dsimp only)); go_at_call 47; refine (HBL.out _ _ (by repeat (first | exact HOLD.out | apply OldIn.cons)) HS).mono ?_; rintro e_ w_ ⟨bA, bn, bc, rfl, HS_⟩; clear HS; have HS := HS_; clear HS_; replace HS := rot3 HS) | ((with_reducible refine gate_store (t := 39) (p := 13) rfl ?_); go_must (refine ev_storeN HS 6 rfl rfl 5 39 (.tmp 13) (.tmp 12) rfl rfl rfl (.slice bA bn bc) ?hv [.slice bA bn bc] rfl (by kernel_rfl) (by simp) ?h1 #[.int .i64 4, .int .i64 at_.f0, .int .i64 at_.f1, .string ⟨#[]⟩, .slice (some ⟨g8, 0, none⟩) 1 1, .slice bA bn bc, .slice none 0 0] rfl ?_); (case hv => first | rfl | (go_simp; done) | (go_simp; rfl)); (case h1 => simp [Value.oneCell']); clear HS; intro w HS))
    go_wp2_with (first | ((try (refine gate_guard (by rfl) ?_; dsimp only)); go_at_call 23; (first | (with_reducible refine (HT1.out _ _ HS).mono ?_) | (with_reducible refine (HT2.out _ _ HS).mono ?_)); rintro e_ w_ ⟨rfl, HS_⟩; clear HS; have HS := HS_; clear HS_) | ((try (refine gate_guard (by rfl) ?_; dsimp only)); go_at_call 22; (first | (with_reducible refine (HNW.out _ _ HS).mono ?_)); rintro e_ w_ ⟨rfl, HS_⟩; clear HS; have HS := HS_; clear HS_) | ((with_reducible refine gate_dst (N := 5) rfl ?_); go_must (refine ev_box HS rfl (N := 5) rfl (cs := #[.int .i64 0, .int .i64 0]) (t := 32) ?hrun ?_); (case hrun => first | (go_simp; done) | (go_simp; rfl)); clear HS; intro g5 w HS; replace HS := rot3 HS) | ((with_reducible refine gate_store (t := 32) (p := 5) rfl ?_); go_must (refine ev_store HS 2 rfl rfl 32 (.tmp 5) (.tmp 20) rfl rfl rfl [.int .i64 t.f3.f0, .int .i64 t.f3.f1] ?hx (by kernel_rfl) (by rfl) ?h1 ?_); (case hx => first | rfl | (go_simp; done)); (case h1 => simp [Value.oneCell']); clear HS; intro w HS) | ((try (refine gate_guard (by rfl) ?_; dsimp only)); go_at_call 60; (first | (with_reducible refine (HDN.out _ _ HS).mono ?_)); rintro e_ w_ ⟨rfl, HS_⟩; clear HS; have HS := HS_; clear HS_) | ((with_reducible refine gate_dst (N := 43) rfl ?_); (with_reducible refine gate_load (ty := 45) (p := 3) rfl ?_); (try (refine gate_guard (by rfl) ?_; dsimp only)); go_must (refine ev_load HS 7 rfl rfl 45 (.tmp 3) rfl (N := 43) rfl rfl _ Tryd.underlying45 rfl (by kernel_rfl) ?_)) | ((with_reducible refine gate_store (t := 45) (p := 4) rfl ?_); go_must (refine ev_store HS 6 rfl rfl 45 (.tmp 4) (.tmp 43) rfl rfl rfl [.int .i64 4, .int .i64 at_.f0, .int .i64 at_.f1, .string ⟨#[]⟩, .slice (some ⟨g8, 0, none⟩) 1 1, .slice bA bn bc, .slice none 0 0] ?hx (by kernel_rfl) (by rfl) ?h1 ?_); (case hx => first | rfl | (go_simp; done)); (case h1 => simp [Value.oneCell']); clear HS; intro w HS))
    refine ret_row HS 6 rfl (p := 4) rfl rfl _ Tryd.underlying45 rfl (by kernel_rfl) rfl ?_
    replace HS := HS.erase 2
    replace HS := HS.erase 5
    replace HS := HS.erase 5
    replace HS := HS.nil k45 45
    replace HS := HS.front 2 rfl
    replace HS := HS.front 2 rfl
    replace HS := HS.front 2 rfl
    replace HS := HS.front 3 rfl
    replace HS := HS.front 5 rfl
    replace HS := HS.front 5 rfl
    exact ⟨some ⟨g8, 0, none⟩, bA, none, 1, bn, 0, 1, bc, 0, rfl, st_of_rows ⟨4, at_, bs [], [e1], b1, []⟩ (row_one e1 HS)⟩
  | true =>
    rw [if_pos hd] at hp
    have HDN := Aside0.mk (fun (w : World) (L : List Chunk) (HS : Sat W0 w (psB g A0 c0 all.length s4 :: tkR A0 c0 all :: L)) => down_at h4 hd HS)
    have h5 := h4.down
    obtain ⟨s5, hs_⟩ : ∃ x, x = (downP s4).2 := ⟨_, rfl⟩
    rw [← hs_] at HDN h5 hp
    clear hs_ hd h4
    cases hc : F.choice ⟨0, t.f3, bs [], [], [], []⟩ s5 with
    | none => rw [hc] at hp; cases hp
    | some r_ =>
    obtain ⟨c1, s6⟩ := r_
    rw [hc] at hp
    simp only at hp
    obtain ⟨rfl, rfl⟩ := pair_inj hp
    have HCH := Aside0.mk (fun (w : World) (M : List Chunk) (hM : OldIn W0 M) (HS : Sat W0 w (psB g A0 c0 all.length s5 :: tkR A0 c0 all :: M)) => hC W0 w M g A0 c0 t.f3 s5 c1 s6 HGL.out hM h5 hc HS)
    have h6 := (hF.choice _ _ _ _ h5 hc).1
    have hw : wrap64 (s6.deep - 1) = s6.deep - 1 := w64 _ (by have := h6.d0; omega) (by have := h6.d1; omega)
    have HBACK := Aside0.mk (fun (w : World) (L2 : List Chunk) (HS : Sat W0 w (blk g 68 #[.slice (some (A0.add ((all.length - s6.ts.length) * 5))) s6.ts.length (c0 - (all.length - s6.ts.length)), .int .i64 (s6.deep - 1), .int .i64 s6.e, .int .i64 s6.l, .int .i64 s6.c] :: L2)) => show Sat W0 w (psB g A0 c0 all.length (upP s6) :: L2) from HS)
    clear hp hc h5 h6 hF hW hB hC
    go_enter Tryd.func74, Tryd.ntmps74
    go_upto_region 1 with (first | ((with_reducible refine gate_dst (N := 3) rfl ?_); go_must (refine ev_box HS rfl (N := 3) rfl (cs := #[.int .i64 0, .int .i64 at_.f0, .int .i64 at_.f1, .string ⟨#[]⟩, .slice none 0 0, .slice none 0 0, .slice none 0 0]) (t := 45) ?hrun ?_); (case hrun => first | (go_simp; done) | (go_simp; rfl)); clear HS; intro g3 w HS; replace HS := rot3 HS) | ((with_reducible refine gate_dst (N := 4) rfl ?_); go_must (refine ev_box HS rfl (N := 4) rfl (cs := #[.int .i64 0, .int .i64 0, .int .i64 0, .string ⟨#[]⟩, .slice none 0 0, .slice none 0 0, .slice none 0 0]) (t := 45) ?hrun ?_); (case hrun => first | (go_simp; done) | (go_simp; rfl)); clear HS; intro g4 w HS; replace HS := rot3 HS))
    go_upto_region 3 with (first | ((try (refine gate_guard (by rfl) ?_; dsimp only)); go_at_call 73; refine (HWH.out _ _ (by repeat (first | exact HOLD.out | apply OldIn.cons)) HS).mono ?_; rintro e_ w_ ⟨eA, en, ec, rfl, HS_⟩; clear HS; have HS := HS_; clear HS_; replace HS := rot3 HS) | ((with_reducible refine gate_dst (N := 8) rfl ?_); go_must (refine ev_litb HS rfl (N := 8) rfl (cs := ((exA e1 (.slice eA en ec))).toArray) (e := 51) (n := 1) ?hrun ?_); (case hrun => first | (go_simp; done) | (go_simp; rfl)); clear HS; intro g8 w HS; replace HS := rot3 HS) | ((with_reducible refine gate_store (t := 42) (p := 9) rfl ?_); go_must (refine ev_storeN HS 5 rfl rfl 0 42 (.tmp 9) (.const (.int .i64 4)) rfl rfl rfl (.int .i64 4) ?hv [.int .i64 4] rfl (by kernel_rfl) (by simp) ?h1 #[.int .i64 4, .int .i64 at_.f0, .int .i64 at_.f1, .string ⟨#[]⟩, .slice none 0 0, .slice none 0 0, .slice none 0 0] rfl ?_); (case hv => first | rfl | (go_simp; done) | (go_simp; rfl)); (case h1 => simp [Value.oneCell']); clear HS; intro w HS) | ((with_reducible refine gate_store (t := 43) (p := 10) rfl ?_); go_must (refine ev_storeN HS 5 rfl rfl 4 43 (.tmp 10) (.tmp 8) rfl rfl rfl (.slice (some ⟨g8, 0, none⟩) 1 1) ?hv [.slice (some ⟨g8, 0, none⟩) 1 1] rfl (by kernel_rfl) (by simp) ?h1 #[.int .i64 4, .int .i64 at_.f0, .int .i64 at_.f1, .string ⟨#[]⟩, .slice (some ⟨g8, 0, none⟩) 1 1, .slice none 0 0, .slice none 0 0] rfl ?_); (case hv => first | rfl | (go_simp; done) | (go_simp; rfl)); (case h1 => simp [Value.oneCell']); clear HS; intro w HS) | ((try (refine gate_guard (by rfl) ?_; dsimp only)); go_at_call 47; refine (HBL.out _ _ (by repeat (first | exact HOLD.out | apply OldIn.cons)) HS).mono ?_; rintro e_ w_ ⟨bA, bn, bc, rfl, HS_⟩; clear HS; have HS := HS_; clear HS_; replace HS := rot3 HS) | ((with_reducible refine gate_store (t := 39) (p := 13) rfl ?_); go_must (refine ev_storeN HS 6 rfl rfl 5 39 (.tmp 13) (.tmp 12) rfl rfl rfl (.slice bA bn bc) ?hv [.slice bA bn bc] rfl (by kernel_rfl) (by simp) ?h1 #[.int .i64 4, .int .i64 at_.f0, .int .i64 at_.f1, .string ⟨#[]⟩, .slice (some ⟨g8, 0, none⟩) 1 1, .slice bA bn bc, .slice none 0 0] rfl ?_); (case hv => first | rfl | (go_simp; done) | (go_simp; rfl)); (case h1 => simp [Value.oneCell']); clear HS; intro w HS))
    go_upto_region 11 with (first | ((try (refine gate_guard (by rfl) ?_; dsimp only)); go_at_call 23; (first | (with_reducible refine (HT1.out _ _ HS).mono ?_) | (with_reducible refine (HT2.out _ _ HS).mono ?_)); rintro e_ w_ ⟨rfl, HS_⟩; clear HS; have HS := HS_; clear HS_) | ((try (refine gate_guard (by rfl) ?_; dsimp only)); go_at_call 22; (first | (with_reducible refine (HNW.out _ _ HS).mono ?_)); rintro e_ w_ ⟨rfl, HS_⟩; clear HS; have HS := HS_; clear HS_) | ((with_reducible refine gate_dst (N := 5) rfl ?_); go_must (refine ev_box HS rfl (N := 5) rfl (cs := #[.int .i64 0, .int .i64 0]) (t := 32) ?hrun ?_); (case hrun => first | (go_simp; done) | (go_simp; rfl)); clear HS; intro g5 w HS; replace HS := rot3 HS) | ((with_reducible refine gate_store (t := 32) (p := 5) rfl ?_); go_must (refine ev_store HS 2 rfl rfl 32 (.tmp 5) (.tmp 20) rfl rfl rfl [.int .i64 t.f3.f0, .int .i64 t.f3.f1] ?hx (by kernel_rfl) (by rfl) ?h1 ?_); (case hx => first | rfl | (go_simp; done)); (case h1 => simp [Value.oneCell']); clear HS; intro w HS) | ((try (refine gate_guard (by rfl) ?_; dsimp only)); go_at_call 60; (first | (with_reducible refine (HDN.out _ _ HS).mono ?_)); rintro e_ w_ ⟨rfl, HS_⟩; clear HS; have HS := HS_; clear HS_) | ((with_reducible refine gate_dst (N := 31) rfl ?_); (with_reducible refine gate_load (ty := 32) (p := 5) rfl ?_); (try (refine gate_guard (by rfl) ?_; dsimp only)); go_must (refine ev_load HS 2 rfl rfl 32 (.tmp 5) rfl (N := 31) rfl rfl _ Tryd.underlying32 rfl (by kernel_rfl) ?_)) | ((try (refine gate_guard (by rfl) ?_; dsimp only)); go_at_call 74; refine (HCH.out _ _ (by repeat (first | exact HOLD.out | apply OldIn.cons)) HS).mono ?_; rintro e_ w_ ⟨vA, vB, vC, va, vb, vc, va', vb', vc', rfl, HS_⟩; clear HS; have HS := HS_; clear HS_; replace HS := rot3 HS) | ((with_reducible refine gate_dst (N := 34) rfl ?_); go_must (refine ev_litb HS rfl (N := 34) rfl (cs := ((stA c1 (.slice vA va va') (.slice vB vb vb') (.slice vC vc vc'))).toArray) (e := 45) (n := 1) ?hrun ?_); (case hrun => first | (go_simp; done) | (go_simp; rfl)); clear HS; intro g34 w HS; replace HS := rot3 HS) | ((with_reducible refine gate_store (t := 39) (p := 35) rfl ?_); go_must (refine ev_storeN HS 9 rfl rfl 6 39 (.tmp 35) (.tmp 34) rfl rfl rfl (.slice (some ⟨g34, 0, none⟩) 1 1) ?hv [.slice (some ⟨g34, 0, none⟩) 1 1] rfl (by kernel_rfl) (by simp) ?h1 #[.int .i64 4, .int .i64 at_.f0, .int .i64 at_.f1, .string ⟨#[]⟩, .slice (some ⟨g8, 0, none⟩) 1 1, .slice bA bn bc, .slice (some ⟨g34, 0, none⟩) 1 1] rfl ?_); (case hv => first | rfl | (go_simp; done) | (go_simp; rfl)); (case h1 => simp [Value.oneCell']); clear HS; intro w HS))
    have cb0 := HS.cell 0 rfl
    go_wp2_with (first | ((with_reducible refine gate_store (t := 3) (p := 42) rfl ?_); go_must (refine ev_storeN HS 0 rfl rfl 1 3 (.tmp 42) (.tmp 40) rfl rfl rfl (.int .i64 (s6.deep - 1)) ?hv [.int .i64 (s6.deep - 1)] rfl (by kernel_rfl) (by simp) ?h1 #[.slice (some (A0.add ((all.length - s6.ts.length) * 5))) s6.ts.length (c0 - (all.length - s6.ts.length)), .int .i64 (s6.deep - 1), .int .i64 s6.e, .int .i64 s6.l, .int .i64 s6.c] rfl ?_); (case hv => first | rfl | (go_simp; done) | (go_simp; rfl)); (case h1 => simp [Value.oneCell']); clear HS; intro w HS; replace HS := HBACK.out _ _ HS) | ((with_reducible refine gate_dst (N := 43) rfl ?_); (with_reducible refine gate_load (ty := 45) (p := 3) rfl ?_); (try (refine gate_guard (by rfl) ?_; dsimp only)); go_must (refine ev_load HS 9 rfl rfl 45 (.tmp 3) rfl (N := 43) rfl rfl _ Tryd.underlying45 rfl (by kernel_rfl) ?_)) | ((with_reducible refine gate_store (t := 45) (p := 4) rfl ?_); go_must (refine ev_store HS 8 rfl rfl 45 (.tmp 4) (.tmp 43) rfl rfl rfl [.int .i64 4, .int .i64 at_.f0, .int .i64 at_.f1, .string ⟨#[]⟩, .slice (some ⟨g8, 0, none⟩) 1 1, .slice bA bn bc, .slice (some ⟨g34, 0, none⟩) 1 1] ?hx (by kernel_rfl) (by rfl) ?h1 ?_); (case hx => first | rfl | (go_simp; done)); (case h1 => simp [Value.oneCell']); clear HS; intro w HS))
    refine ret_row HS 8 rfl (p := 4) rfl rfl _ Tryd.underlying45 rfl (by kernel_rfl) rfl ?_
    replace HS := HS.erase 4
    replace HS := HS.erase 7
    replace HS := HS.erase 7
    replace HS := HS.front 1 rfl
    replace HS := HS.front 1 rfl
    replace HS := HS.front 4 rfl
    replace HS := HS.front 6 rfl
    replace HS := HS.front 6 rfl
    replace HS := HS.front 6 rfl
    replace HS := HS.front 6 rfl
    replace HS := row_st c1 HS
    replace HS := HS.front 5 rfl
    replace HS := HS.front 5 rfl
    replace HS := HS.front 2 rfl
    replace HS := HS.front 5 rfl
    replace HS := HS.front 5 rfl
    replace HS := HS.front 5 rfl
    exact ⟨some ⟨g8, 0, none⟩, bA, some ⟨g34, 0, none⟩, 1, bn, 1, 1, bc, 1, rfl, st_of_rows ⟨4, at_, bs [], [e1], b1, [c1]⟩ (row_one e1 HS)⟩
end Go.Proofs.YtenkganofobioaaDoor.B
