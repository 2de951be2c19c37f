/- Parsing: primary. -/
import Derived.Test.YtenkganofobioaaDoorPaUnary
namespace Go.Proofs.YtenkganofobioaaDoor.B
open Go.RowKit Go.Proofs.YtenkganofobioaaDoor.Mine Go.Proofs.YtenkganofobioaaDoor.Sep Go.Proofs.YtenkganofobioaaDoorW.PrintWords Go.Proofs.YtenkganofobioaaDoorW.PrintLast Go.Proofs.YtenkganofobioaaDoorW.PrintMore
set_option linter.unusedVariables false
set_option linter.unusedSimpArgs false
attribute [local go_sem] Instr.field asAgg
/-- A part is among those that stand. -/
def HasB (W0 w : World) (c : Chunk) : Prop := ∃ (L : List Chunk) (i : Nat), L[i]? = some c ∧ Sat W0 w L
theorem whole_hb {P : Program} {o : Oper} {a : Act} {W0 w : World} {g : Nat} {t : TypeId} {cs : Array Value} (HS : HasB W0 w (blk g t cs)) (ty : TypeId) (x : Operand) (ho : o.op = .load ty x) (hx : a.eval x = .pointer (some ⟨g, 0, none⟩)) (d : TypeDesc)
    (hu : P.underlying ty = some d) (hdd : (match d with | .struct _ | .array _ _ => true | _ => false) = true) (hin : (P.info? ty).map (·.size) = some cs.size) : (execOp a.eval o).run P w = .ok (.value (.agg cs)) w := by
  obtain ⟨L, i, hi, HS⟩ := HS
  unfold execOp
  simp only [ho, hx, Instr.loadAt, Instr.sureAddr, Sem.run_bind, Sem.run_pure, Result.andThen_ok, run_loadVar_row w g t ty cs (0, 0) d (HS.blk i hi) hu hdd hin]
theorem HasB.cell {W0 w : World} {g t : Nat} {cs : Array Value} (h : HasB W0 w (blk g t cs)) (k : Nat) : w.cell? ⟨g, k, none⟩ = cs[k]? := by
  obtain ⟨L, i, hi, HS⟩ := h
  exact blk_cell (HS.blk i hi) k
set_option maxRecDepth 100000 in
set_option maxHeartbeats 8000000 in
theorem primary_walk {all : List TK} {F : Fns} (hF : FKeep all F) (hW : ExC all 73 [] F.whole) (hA : ArC all 98 [] (argsP F)) (p : S32) : ExC all 96 [.agg #[.int .i64 p.f0, .int .i64 p.f1]] (primaryP F p) := by
  intro W0 w L g A0 c0 io s e s' hG hio h hp HS
  have HOLD := Aside0.mk (show OldIn W0 L from ⟨io, hio⟩)
  have HGL := Aside0.mk hG
  clear hG hio
  have HNW := Aside0.mk (fun (w : World) (L : List Chunk) (HS : Sat W0 w (psB g A0 c0 all.length s :: tkR A0 c0 all :: L)) => now_calls h HS)
  unfold primaryP at hp
  obtain ⟨t, ht⟩ : ∃ t, t = nowP s := ⟨_, rfl⟩
  rw [← ht] at HNW hp
  unfold tkA at HNW
  by_cases hk : t.f0 = 2
  · rw [if_pos hk] at hp
    obtain ⟨rfl, rfl⟩ := pair_inj hp
    have c1_ : (t.f0 == 2) = true := by rw [hk]; rfl
    have HSK := Aside0.mk (fun (w : World) (L : List Chunk) (HS : Sat W0 w (psB g A0 c0 all.length s :: tkR A0 c0 all :: L)) => show Calls Tryd.prog 44 #[.pointer (some ⟨g, 0, none⟩)] w _ from skip_callsP h HS)
    try unfold tkA at HSK
    clear hp ht hk h hF hW hA
    go_enter Tryd.func96, Tryd.ntmps96
    go_upto_region 1 with (first | ((with_reducible refine gate_dst (N := 3) rfl ?_); go_must (refine ev_box HS rfl (N := 3) rfl (cs := #[.int .i64 p.f0, .int .i64 p.f1]) (t := 32) ?hrun ?_); (case hrun => first | (go_simp; done) | (go_simp; rfl)); clear HS; intro g3 w HS; replace HS := rot3 HS) | ((with_reducible refine gate_dst (N := 4) rfl ?_); go_must (refine ev_box HS rfl (N := 4) rfl (cs := #[.int .i64 0, .int .i64 0, .int .i64 0, .int .i64 0, .string ⟨#[]⟩, .int .i64 0, .slice none 0 0]) (t := 51) ?hrun ?_); (case hrun => first | (go_simp; done) | (go_simp; rfl)); clear HS; intro g4 w HS; replace HS := rot3 HS))
    go_upto_region 2 with (first | ((try (refine gate_guard (by rfl) ?_; dsimp only)); go_at_call 22; (first | (with_reducible refine (HNW.out _ _ HS).mono ?_)); rintro e_ w_ ⟨rfl, HS_⟩; clear HS; have HS := HS_; clear HS_) | ((with_reducible refine gate_dst (N := 5) rfl ?_); go_must (refine ev_box HS rfl (N := 5) rfl (cs := #[.int .i64 0, .string ⟨#[]⟩, .int .i64 0, .int .i64 0, .int .i64 0]) (t := 71) ?hrun ?_); (case hrun => first | (go_simp; done) | (go_simp; rfl)); clear HS; intro g5 w HS; replace HS := rot3 HS) | ((with_reducible refine gate_store (t := 71) (p := 5) rfl ?_); go_must (refine ev_store HS 2 rfl rfl 71 (.tmp 5) (.tmp 10) rfl rfl rfl [.int .i64 t.f0, .string t.f1, .int .i64 t.f2, .int .i64 t.f3.f0, .int .i64 t.f3.f1] ?hx (by kernel_rfl) (by rfl) ?h1 ?_); (case hx => first | rfl | (go_simp; done)); (case h1 => simp [Value.oneCell']); clear HS; intro w HS))
    have cb0 := HS.cell 2 rfl
    go_upto_region 3 with (fail)
    go_upto_region 4 with (first | ((try (refine gate_guard (by rfl) ?_; dsimp only)); go_at_call 44; (first | (with_reducible refine (HSK.out _ _ HS).mono ?_)); rintro e_ w_ ⟨rfl, HS_⟩; clear HS; have HS := HS_; clear HS_))
    clear cb0
    have cb0 := HS.cell 2 rfl
    go_wp2_with (first | ((with_reducible refine gate_dst (N := 17) rfl ?_); (with_reducible refine gate_load (ty := 32) (p := 3) rfl ?_); (try (refine gate_guard (by rfl) ?_; dsimp only)); go_must (refine ev_load HS 4 rfl rfl 32 (.tmp 3) rfl (N := 17) rfl rfl _ Tryd.underlying32 rfl (by kernel_rfl) ?_)) | ((with_reducible refine gate_store (t := 51) (p := 4) rfl ?_); go_must (refine ev_store HS 3 rfl rfl 51 (.tmp 4) (.tmp 20) rfl rfl rfl [.int .i64 1, .int .i64 p.f0, .int .i64 p.f1, .int .i64 t.f2, .string ⟨#[]⟩, .int .i64 0, .slice none 0 0] ?hx (by kernel_rfl) (by rfl) ?h1 ?_); (case hx => first | rfl | (go_simp; done)); (case h1 => simp [Value.oneCell']); clear HS; intro w HS))
    refine ret_row HS 3 rfl (p := 4) rfl rfl _ Tryd.underlying51 rfl (by kernel_rfl) rfl ?_
    replace HS := HS.erase 2
    replace HS := HS.erase 2
    replace HS := HS.erase 2
    exact ⟨none, 0, 0, rfl, ex_none ⟨1, p, t.f2, bs [], 0, []⟩ rfl HS⟩
  rw [if_neg hk] at hp
  have c1_ : (t.f0 == 2) = false := beq_eq_false_iff_ne.2 hk
  clear hk ht
  cases ht : (takeP s (bs [116, 114, 117, 101])).1 with
  | true =>
    rw [if_pos ht] at hp
    obtain ⟨rfl, rfl⟩ := pair_inj hp
    have HT0 := Aside0.mk (fun (w : World) (L : List Chunk) (HS : Sat W0 w (psB g A0 c0 all.length s :: tkR A0 c0 all :: L)) => show Calls Tryd.prog 23 #[.pointer (some ⟨g, 0, none⟩), .string ⟨#[116, 114, 117, 101]⟩] w fun r w' => r = .returned (.bool true) ∧ Sat W0 w' (psB g A0 c0 all.length (takeP s (bs [116, 114, 117, 101])).2 :: tkR A0 c0 all :: L) from take_at h ht HS)
    clear hp h hF hW hA ht
    go_enter Tryd.func96, Tryd.ntmps96
    go_upto_region 1 with (first | ((with_reducible refine gate_dst (N := 3) rfl ?_); go_must (refine ev_box HS rfl (N := 3) rfl (cs := #[.int .i64 p.f0, .int .i64 p.f1]) (t := 32) ?hrun ?_); (case hrun => first | (go_simp; done) | (go_simp; rfl)); clear HS; intro g3 w HS; replace HS := rot3 HS) | ((with_reducible refine gate_dst (N := 4) rfl ?_); go_must (refine ev_box HS rfl (N := 4) rfl (cs := #[.int .i64 0, .int .i64 0, .int .i64 0, .int .i64 0, .string ⟨#[]⟩, .int .i64 0, .slice none 0 0]) (t := 51) ?hrun ?_); (case hrun => first | (go_simp; done) | (go_simp; rfl)); clear HS; intro g4 w HS; replace HS := rot3 HS))
    go_upto_region 2 with (first | ((try (refine gate_guard (by rfl) ?_; dsimp only)); go_at_call 22; (first | (with_reducible refine (HNW.out _ _ HS).mono ?_)); rintro e_ w_ ⟨rfl, HS_⟩; clear HS; have HS := HS_; clear HS_) | ((with_reducible refine gate_dst (N := 5) rfl ?_); go_must (refine ev_box HS rfl (N := 5) rfl (cs := #[.int .i64 0, .string ⟨#[]⟩, .int .i64 0, .int .i64 0, .int .i64 0]) (t := 71) ?hrun ?_); (case hrun => first | (go_simp; done) | (go_simp; rfl)); clear HS; intro g5 w HS; replace HS := rot3 HS) | ((with_reducible refine gate_store (t := 71) (p := 5) rfl ?_); go_must (refine ev_store HS 2 rfl rfl 71 (.tmp 5) (.tmp 10) rfl rfl rfl [.int .i64 t.f0, .string t.f1, .int .i64 t.f2, .int .i64 t.f3.f0, .int .i64 t.f3.f1] ?hx (by kernel_rfl) (by rfl) ?h1 ?_); (case hx => first | rfl | (go_simp; done)); (case h1 => simp [Value.oneCell']); clear HS; intro w HS))
    have cb0 := HS.cell 2 rfl
    go_wp2_with (first | ((try (refine gate_guard (by rfl) ?_; dsimp only)); go_at_call 23; (first | (with_reducible refine (HT0.out _ _ HS).mono ?_)); rintro e_ w_ ⟨rfl, HS_⟩; clear HS; have HS := HS_; clear HS_) | ((with_reducible refine gate_dst (N := 24) rfl ?_); (with_reducible refine gate_load (ty := 32) (p := 3) rfl ?_); (try (refine gate_guard (by rfl) ?_; dsimp only)); go_must (refine ev_load HS 4 rfl rfl 32 (.tmp 3) rfl (N := 24) rfl rfl _ Tryd.underlying32 rfl (by kernel_rfl) ?_)) | ((with_reducible refine gate_store (t := 51) (p := 4) rfl ?_); go_must (refine ev_store HS 3 rfl rfl 51 (.tmp 4) (.tmp 25) rfl rfl rfl [.int .i64 2, .int .i64 p.f0, .int .i64 p.f1, .int .i64 1, .string ⟨#[]⟩, .int .i64 0, .slice none 0 0] ?hx (by kernel_rfl) (by rfl) ?h1 ?_); (case hx => first | rfl | (go_simp; done)); (case h1 => simp [Value.oneCell']); clear HS; intro w HS))
    refine ret_row HS 3 rfl (p := 4) rfl rfl _ Tryd.underlying51 rfl (by kernel_rfl) rfl ?_
    replace HS := HS.erase 2
    replace HS := HS.erase 2
    replace HS := HS.erase 2
    exact ⟨none, 0, 0, rfl, ex_none ⟨2, p, 1, bs [], 0, []⟩ rfl HS⟩
  | false =>
  rw [if_neg (by rw [ht]; decide)] at hp
  have hf0 := ht
  clear ht
  cases ht : (takeP s (bs [102, 97, 108, 115, 101])).1 with
  | true =>
    rw [if_pos ht] at hp
    obtain ⟨rfl, rfl⟩ := pair_inj hp
    have HT0 := Aside0.mk (fun (w : World) (L : List Chunk) (HS : Sat W0 w (psB g A0 c0 all.length s :: tkR A0 c0 all :: L)) => show Calls Tryd.prog 23 #[.pointer (some ⟨g, 0, none⟩), .string ⟨#[116, 114, 117, 101]⟩] w fun r w' => r = .returned (.bool false) ∧ Sat W0 w' (psB g A0 c0 all.length s :: tkR A0 c0 all :: L) from take_no h hf0 HS)
    have HT1 := Aside0.mk (fun (w : World) (L : List Chunk) (HS : Sat W0 w (psB g A0 c0 all.length s :: tkR A0 c0 all :: L)) => show Calls Tryd.prog 23 #[.pointer (some ⟨g, 0, none⟩), .string ⟨#[102, 97, 108, 115, 101]⟩] w fun r w' => r = .returned (.bool true) ∧ Sat W0 w' (psB g A0 c0 all.length (takeP s (bs [102, 97, 108, 115, 101])).2 :: tkR A0 c0 all :: L) from take_at h ht HS)
    clear hp h hF hW hA ht hf0
    go_enter Tryd.func96, Tryd.ntmps96
    go_upto_region 1 with (first | ((with_reducible refine gate_dst (N := 3) rfl ?_); go_must (refine ev_box HS rfl (N := 3) rfl (cs := #[.int .i64 p.f0, .int .i64 p.f1]) (t := 32) ?hrun ?_); (case hrun => first | (go_simp; done) | (go_simp; rfl)); clear HS; intro g3 w HS; replace HS := rot3 HS) | ((with_reducible refine gate_dst (N := 4) rfl ?_); go_must (refine ev_box HS rfl (N := 4) rfl (cs := #[.int .i64 0, .int .i64 0, .int .i64 0, .int .i64 0, .string ⟨#[]⟩, .int .i64 0, .slice none 0 0]) (t := 51) ?hrun ?_); (case hrun => first | (go_simp; done) | (go_simp; rfl)); clear HS; intro g4 w HS; replace HS := rot3 HS))
    go_upto_region 2 with (first | ((try (refine gate_guard (by rfl) ?_; dsimp only)); go_at_call 22; (first | (with_reducible refine (HNW.out _ _ HS).mono ?_)); rintro e_ w_ ⟨rfl, HS_⟩; clear HS; have HS := HS_; clear HS_) | ((with_reducible refine gate_dst (N := 5) rfl ?_); go_must (refine ev_box HS rfl (N := 5) rfl (cs := #[.int .i64 0, .string ⟨#[]⟩, .int .i64 0, .int .i64 0, .int .i64 0]) (t := 71) ?hrun ?_); (case hrun => first | (go_simp; done) | (go_simp; rfl)); clear HS; intro g5 w HS; replace HS := rot3 HS) | ((with_reducible refine gate_store (t := 71) (p := 5) rfl ?_); go_must (refine ev_store HS 2 rfl rfl 71 (.tmp 5) (.tmp 10) rfl rfl rfl [.int .i64 t.f0, .string t.f1, .int .i64 t.f2, .int .i64 t.f3.f0, .int .i64 t.f3.f1] ?hx (by kernel_rfl) (by rfl) ?h1 ?_); (case hx => first | rfl | (go_simp; done)); (case h1 => simp [Value.oneCell']); clear HS; intro w HS))
    have cb0 := HS.cell 2 rfl
    go_wp2_with (first | ((try (refine gate_guard (by rfl) ?_; dsimp only)); go_at_call 23; (first | (with_reducible refine (HT0.out _ _ HS).mono ?_) | (with_reducible refine (HT1.out _ _ HS).mono ?_)); rintro e_ w_ ⟨rfl, HS_⟩; clear HS; have HS := HS_; clear HS_) | ((with_reducible refine gate_dst (N := 29) rfl ?_); (with_reducible refine gate_load (ty := 32) (p := 3) rfl ?_); (try (refine gate_guard (by rfl) ?_; dsimp only)); go_must (refine ev_load HS 4 rfl rfl 32 (.tmp 3) rfl (N := 29) rfl rfl _ Tryd.underlying32 rfl (by kernel_rfl) ?_)) | ((with_reducible refine gate_store (t := 51) (p := 4) rfl ?_); go_must (refine ev_store HS 3 rfl rfl 51 (.tmp 4) (.tmp 30) rfl rfl rfl [.int .i64 2, .int .i64 p.f0, .int .i64 p.f1, .int .i64 0, .string ⟨#[]⟩, .int .i64 0, .slice none 0 0] ?hx (by kernel_rfl) (by rfl) ?h1 ?_); (case hx => first | rfl | (go_simp; done)); (case h1 => simp [Value.oneCell']); clear HS; intro w HS))
    refine ret_row HS 3 rfl (p := 4) rfl rfl _ Tryd.underlying51 rfl (by kernel_rfl) rfl ?_
    replace HS := HS.erase 2
    replace HS := HS.erase 2
    replace HS := HS.erase 2
    exact ⟨none, 0, 0, rfl, ex_none ⟨2, p, 0, bs [], 0, []⟩ rfl HS⟩
  | false =>
  rw [if_neg (by rw [ht]; decide)] at hp
  have hf1 := ht
  clear ht
  cases ht : (takeP s (bs [40])).1 with
  | true =>
    rw [if_pos ht] at hp
    obtain ⟨s1, hs1⟩ : ∃ s1, s1 = (takeP s (bs [40])).2 := ⟨_, rfl⟩
    have HT2 := Aside0.mk (fun (w : World) (L : List Chunk) (HS : Sat W0 w (psB g A0 c0 all.length s :: tkR A0 c0 all :: L)) => show Calls Tryd.prog 23 #[.pointer (some ⟨g, 0, none⟩), .string ⟨#[40]⟩] w fun r w' => r = .returned (.bool true) ∧ Sat W0 w' (psB g A0 c0 all.length (takeP s (bs [40])).2 :: tkR A0 c0 all :: L) from take_at h ht HS)
    have h1 := h.take (bs [40])
    rw [← hs1] at HT2 h1 hp
    clear hs1
    have HT0 := Aside0.mk (fun (w : World) (L : List Chunk) (HS : Sat W0 w (psB g A0 c0 all.length s :: tkR A0 c0 all :: L)) => show Calls Tryd.prog 23 #[.pointer (some ⟨g, 0, none⟩), .string ⟨#[116, 114, 117, 101]⟩] w fun r w' => r = .returned (.bool false) ∧ Sat W0 w' (psB g A0 c0 all.length s :: tkR A0 c0 all :: L) from take_no h hf0 HS)
    have HT1 := Aside0.mk (fun (w : World) (L : List Chunk) (HS : Sat W0 w (psB g A0 c0 all.length s :: tkR A0 c0 all :: L)) => show Calls Tryd.prog 23 #[.pointer (some ⟨g, 0, none⟩), .string ⟨#[102, 97, 108, 115, 101]⟩] w fun r w' => r = .returned (.bool false) ∧ Sat W0 w' (psB g A0 c0 all.length s :: tkR A0 c0 all :: L) from take_no h hf1 HS)
    cases he : F.whole s1 with
    | none => rw [he] at hp; cases hp
    | some r =>
      obtain ⟨e1, s2⟩ := r
      rw [he] at hp
      obtain ⟨rfl, rfl⟩ := pair_inj hp
      have h2 := (hF.whole _ _ _ h1 he).1
      have HWH := Aside0.mk (fun (w : World) (M : List Chunk) (hM : OldIn W0 M) (HS : Sat W0 w (psB g A0 c0 all.length s1 :: tkR A0 c0 all :: M)) => ex_d hW W0 w M g A0 c0 s1 e1 s2 HGL.out hM h1 he HS)
      have HWT := Aside0.mk (fun (w : World) (L : List Chunk) (HS : Sat W0 w (psB g A0 c0 all.length s2 :: tkR A0 c0 all :: L)) => show Calls Tryd.prog 46 #[.pointer (some ⟨g, 0, none⟩), .string ⟨#[41]⟩] w fun r w' => r = .returned (.tuple #[]) ∧ Sat W0 w' (psB g A0 c0 all.length (wantP s2 (bs [41])) :: tkR A0 c0 all :: L) from want_callsP h2 HS (bs [41]))
      clear hp h hF hW hA ht hf0 hf1 h1 h2 he
      go_enter Tryd.func96, Tryd.ntmps96
      go_upto_region 1 with (first | ((with_reducible refine gate_dst (N := 3) rfl ?_); go_must (refine ev_box HS rfl (N := 3) rfl (cs := #[.int .i64 p.f0, .int .i64 p.f1]) (t := 32) ?hrun ?_); (case hrun => first | (go_simp; done) | (go_simp; rfl)); clear HS; intro g3 w HS; replace HS := rot3 HS) | ((with_reducible refine gate_dst (N := 4) rfl ?_); go_must (refine ev_box HS rfl (N := 4) rfl (cs := #[.int .i64 0, .int .i64 0, .int .i64 0, .int .i64 0, .string ⟨#[]⟩, .int .i64 0, .slice none 0 0]) (t := 51) ?hrun ?_); (case hrun => first | (go_simp; done) | (go_simp; rfl)); clear HS; intro g4 w HS; replace HS := rot3 HS))
      go_upto_region 2 with (first | ((try (refine gate_guard (by rfl) ?_; dsimp only)); go_at_call 22; (first | (with_reducible refine (HNW.out _ _ HS).mono ?_)); rintro e_ w_ ⟨rfl, HS_⟩; clear HS; have HS := HS_; clear HS_) | ((with_reducible refine gate_dst (N := 5) rfl ?_); go_must (refine ev_box HS rfl (N := 5) rfl (cs := #[.int .i64 0, .string ⟨#[]⟩, .int .i64 0, .int .i64 0, .int .i64 0]) (t := 71) ?hrun ?_); (case hrun => first | (go_simp; done) | (go_simp; rfl)); clear HS; intro g5 w HS; replace HS := rot3 HS) | ((with_reducible refine gate_store (t := 71) (p := 5) rfl ?_); go_must (refine ev_store HS 2 rfl rfl 71 (.tmp 5) (.tmp 10) rfl rfl rfl [.int .i64 t.f0, .string t.f1, .int .i64 t.f2, .int .i64 t.f3.f0, .int .i64 t.f3.f1] ?hx (by kernel_rfl) (by rfl) ?h1 ?_); (case hx => first | rfl | (go_simp; done)); (case h1 => simp [Value.oneCell']); clear HS; intro w HS))
      have cb0 := HS.cell 2 rfl
      go_wp2_with (first | ((try (refine gate_guard (by rfl) ?_; dsimp only)); go_at_call 23; (first | (with_reducible refine (HT0.out _ _ HS).mono ?_) | (with_reducible refine (HT1.out _ _ HS).mono ?_) | (with_reducible refine (HT2.out _ _ HS).mono ?_)); rintro e_ w_ ⟨rfl, HS_⟩; clear HS; have HS := HS_; clear HS_) | ((try (refine gate_guard (by rfl) ?_; dsimp only)); go_at_call 73; refine (HWH.out _ _ (by repeat (first | exact HOLD.out | apply OldIn.cons)) HS).mono ?_; rintro e_ w_ ⟨vA, vn, vc, rfl, HS_⟩; clear HS; have HS := HS_; clear HS_; replace HS := rot3 HS) | ((with_reducible refine gate_dst (N := 6) rfl ?_); go_must (refine ev_box HS rfl (N := 6) rfl (cs := #[.int .i64 0, .int .i64 0, .int .i64 0, .int .i64 0, .string ⟨#[]⟩, .int .i64 0, .slice none 0 0]) (t := 51) ?hrun ?_); (case hrun => first | (go_simp; done) | (go_simp; rfl)); clear HS; intro g6 w HS; replace HS := rot3 HS) | ((with_reducible refine gate_store (t := 51) (p := 6) rfl ?_); go_must (refine ev_store HS 2 rfl rfl 51 (.tmp 6) (.tmp 35) rfl rfl rfl (exA e1 (.slice vA vn vc)) ?hx (by kernel_rfl) (by rfl) ?h1 ?_); (case hx => first | rfl | (go_simp; done)); (case h1 => simp [Value.oneCell']); clear HS; intro w HS) | ((try (refine gate_guard (by rfl) ?_; dsimp only)); go_at_call 46; (first | (with_reducible refine (HWT.out _ _ HS).mono ?_)); rintro e_ w_ ⟨rfl, HS_⟩; clear HS; have HS := HS_; clear HS_) | ((with_reducible refine gate_dst (N := 38) rfl ?_); (with_reducible refine gate_load (ty := 51) (p := 6) rfl ?_); (try (refine gate_guard (by rfl) ?_; dsimp only)); go_must (refine ev_load HS 2 rfl rfl 51 (.tmp 6) rfl (N := 38) rfl rfl _ Tryd.underlying51 rfl (by kernel_rfl) ?_)) | ((with_reducible refine gate_store (t := 51) (p := 4) rfl ?_); go_must (refine ev_store HS 5 rfl rfl 51 (.tmp 4) (.tmp 38) rfl rfl rfl (exA e1 (.slice vA vn vc)) ?hx (by kernel_rfl) (by rfl) ?h1 ?_); (case hx => first | rfl | (go_simp; done)); (case h1 => simp [Value.oneCell']); clear HS; intro w HS))
      refine ret_row HS 5 rfl (p := 4) rfl rfl _ Tryd.underlying51 rfl (by kernel_rfl) rfl ?_
      replace HS := HS.erase 2
      replace HS := HS.erase 3
      replace HS := HS.erase 3
      replace HS := HS.erase 3
      exact ⟨vA, vn, vc, rfl, tor3 HS⟩
  | false =>
  rw [if_neg (by rw [ht]; decide)] at hp
  have hf2 := ht
  clear ht
  have HT0 := Aside0.mk (fun (w : World) (L : List Chunk) (HS : Sat W0 w (psB g A0 c0 all.length s :: tkR A0 c0 all :: L)) => show Calls Tryd.prog 23 #[.pointer (some ⟨g, 0, none⟩), .string ⟨#[116, 114, 117, 101]⟩] w fun r w' => r = .returned (.bool false) ∧ Sat W0 w' (psB g A0 c0 all.length s :: tkR A0 c0 all :: L) from take_no h hf0 HS)
  have HT1 := Aside0.mk (fun (w : World) (L : List Chunk) (HS : Sat W0 w (psB g A0 c0 all.length s :: tkR A0 c0 all :: L)) => show Calls Tryd.prog 23 #[.pointer (some ⟨g, 0, none⟩), .string ⟨#[102, 97, 108, 115, 101]⟩] w fun r w' => r = .returned (.bool false) ∧ Sat W0 w' (psB g A0 c0 all.length s :: tkR A0 c0 all :: L) from take_no h hf1 HS)
  have HT2 := Aside0.mk (fun (w : World) (L : List Chunk) (HS : Sat W0 w (psB g A0 c0 all.length s :: tkR A0 c0 all :: L)) => show Calls Tryd.prog 23 #[.pointer (some ⟨g, 0, none⟩), .string ⟨#[40]⟩] w fun r w' => r = .returned (.bool false) ∧ Sat W0 w' (psB g A0 c0 all.length s :: tkR A0 c0 all :: L) from take_no h hf2 HS)
  have HNM := Aside0.mk (fun (w : World) (L : List Chunk) (HS : Sat W0 w (psB g A0 c0 all.length s :: tkR A0 c0 all :: L)) => name_callsP h HS)
  have h1 := h.name
  obtain ⟨nm, hnm⟩ : ∃ x, x = (nameP s).1 := ⟨_, rfl⟩
  obtain ⟨s1, hs1⟩ : ∃ x, x = (nameP s).2 := ⟨_, rfl⟩
  simp only at hp
  rw [← hnm, ← hs1] at hp HNM
  rw [← hs1] at h1
  clear hs1 hnm hf0 hf1 hf2 h
  have h := h1
  clear h1
  cases ht : (takeP s1 (bs [91])).1 with
  | true =>
    rw [if_pos ht] at hp
    obtain ⟨s2, hs2⟩ : ∃ x, x = (takeP s1 (bs [91])).2 := ⟨_, rfl⟩
    have HT3 := Aside0.mk (fun (w : World) (L : List Chunk) (HS : Sat W0 w (psB g A0 c0 all.length s1 :: tkR A0 c0 all :: L)) => show Calls Tryd.prog 23 #[.pointer (some ⟨g, 0, none⟩), .string ⟨#[91]⟩] w fun r w' => r = .returned (.bool true) ∧ Sat W0 w' (psB g A0 c0 all.length (takeP s1 (bs [91])).2 :: tkR A0 c0 all :: L) from take_at h ht HS)
    have h2 := h.take (bs [91])
    rw [← hs2] at HT3 h2 hp
    clear hs2
    cases he : F.whole s2 with
    | none => rw [he] at hp; cases hp
    | some r =>
      obtain ⟨e1, s3⟩ := r
      rw [he] at hp
      obtain ⟨rfl, rfl⟩ := pair_inj hp
      have h3 := (hF.whole _ _ _ h2 he).1
      have HWH := Aside0.mk (fun (w : World) (M : List Chunk) (hM : OldIn W0 M) (HS : Sat W0 w (psB g A0 c0 all.length s2 :: tkR A0 c0 all :: M)) => ex_d hW W0 w M g A0 c0 s2 e1 s3 HGL.out hM h2 he HS)
      have HWT := Aside0.mk (fun (w : World) (L : List Chunk) (HS : Sat W0 w (psB g A0 c0 all.length s3 :: tkR A0 c0 all :: L)) => show Calls Tryd.prog 46 #[.pointer (some ⟨g, 0, none⟩), .string ⟨#[93]⟩] w fun r w' => r = .returned (.tuple #[]) ∧ Sat W0 w' (psB g A0 c0 all.length (wantP s3 (bs [93])) :: tkR A0 c0 all :: L) from want_callsP h3 HS (bs [93]))
      clear hp h hF hW hA ht h2 h3 he
      go_enter Tryd.func96, Tryd.ntmps96
      go_upto_region 1 with (first | ((with_reducible refine gate_dst (N := 3) rfl ?_); go_must (refine ev_box HS rfl (N := 3) rfl (cs := #[.int .i64 p.f0, .int .i64 p.f1]) (t := 32) ?hrun ?_); (case hrun => first | (go_simp; done) | (go_simp; rfl)); clear HS; intro g3 w HS; replace HS := rot3 HS) | ((with_reducible refine gate_dst (N := 4) rfl ?_); go_must (refine ev_box HS rfl (N := 4) rfl (cs := #[.int .i64 0, .int .i64 0, .int .i64 0, .int .i64 0, .string ⟨#[]⟩, .int .i64 0, .slice none 0 0]) (t := 51) ?hrun ?_); (case hrun => first | (go_simp; done) | (go_simp; rfl)); clear HS; intro g4 w HS; replace HS := rot3 HS))
      go_upto_region 2 with (first | ((try (refine gate_guard (by rfl) ?_; dsimp only)); go_at_call 22; (first | (with_reducible refine (HNW.out _ _ HS).mono ?_)); rintro e_ w_ ⟨rfl, HS_⟩; clear HS; have HS := HS_; clear HS_) | ((with_reducible refine gate_dst (N := 5) rfl ?_); go_must (refine ev_box HS rfl (N := 5) rfl (cs := #[.int .i64 0, .string ⟨#[]⟩, .int .i64 0, .int .i64 0, .int .i64 0]) (t := 71) ?hrun ?_); (case hrun => first | (go_simp; done) | (go_simp; rfl)); clear HS; intro g5 w HS; replace HS := rot3 HS) | ((with_reducible refine gate_store (t := 71) (p := 5) rfl ?_); go_must (refine ev_store HS 2 rfl rfl 71 (.tmp 5) (.tmp 10) rfl rfl rfl [.int .i64 t.f0, .string t.f1, .int .i64 t.f2, .int .i64 t.f3.f0, .int .i64 t.f3.f1] ?hx (by kernel_rfl) (by rfl) ?h1 ?_); (case hx => first | rfl | (go_simp; done)); (case h1 => simp [Value.oneCell']); clear HS; intro w HS))
      have cb0 := HS.cell 2 rfl
      go_wp2_with (first | ((try (refine gate_guard (by rfl) ?_; dsimp only)); go_at_call 23; (first | (with_reducible refine (HT0.out _ _ HS).mono ?_) | (with_reducible refine (HT1.out _ _ HS).mono ?_) | (with_reducible refine (HT2.out _ _ HS).mono ?_) | (with_reducible refine (HT3.out _ _ HS).mono ?_)); rintro e_ w_ ⟨rfl, HS_⟩; clear HS; have HS := HS_; clear HS_) | ((try (refine gate_guard (by rfl) ?_; dsimp only)); go_at_call 45; (first | (with_reducible refine (HNM.out _ _ HS).mono ?_)); rintro e_ w_ ⟨rfl, HS_⟩; clear HS; have HS := HS_; clear HS_) | ((try (refine gate_guard (by rfl) ?_; dsimp only)); go_at_call 73; refine (HWH.out _ _ (by repeat (first | exact HOLD.out | apply OldIn.cons)) HS).mono ?_; rintro e_ w_ ⟨vA, vn, vc, rfl, HS_⟩; clear HS; have HS := HS_; clear HS_; replace HS := rot3 HS) | ((with_reducible refine gate_dst (N := 8) rfl ?_); go_must (refine ev_box HS rfl (N := 8) rfl (cs := #[.int .i64 0, .int .i64 0, .int .i64 0, .int .i64 0, .string ⟨#[]⟩, .int .i64 0, .slice none 0 0]) (t := 51) ?hrun ?_); (case hrun => first | (go_simp; done) | (go_simp; rfl)); clear HS; intro g8 w HS; replace HS := rot3 HS) | ((with_reducible refine gate_store (t := 51) (p := 8) rfl ?_); go_must (refine ev_store HS 2 rfl rfl 51 (.tmp 8) (.tmp 45) rfl rfl rfl (exA e1 (.slice vA vn vc)) ?hx (by kernel_rfl) (by rfl) ?h1 ?_); (case hx => first | rfl | (go_simp; done)); (case h1 => simp [Value.oneCell']); clear HS; intro w HS) | ((try (refine gate_guard (by rfl) ?_; dsimp only)); go_at_call 46; (first | (with_reducible refine (HWT.out _ _ HS).mono ?_)); rintro e_ w_ ⟨rfl, HS_⟩; clear HS; have HS := HS_; clear HS_) | ((with_reducible refine gate_dst (N := 48) rfl ?_); (with_reducible refine gate_load (ty := 32) (p := 3) rfl ?_); (try (refine gate_guard (by rfl) ?_; dsimp only)); go_must (refine ev_load HS 6 rfl rfl 32 (.tmp 3) rfl (N := 48) rfl rfl _ Tryd.underlying32 rfl (by kernel_rfl) ?_)) | ((with_reducible refine gate_dst (N := 50) rfl ?_); (with_reducible refine gate_load (ty := 51) (p := 8) rfl ?_); (try (refine gate_guard (by rfl) ?_; dsimp only)); go_must (refine ev_load HS 2 rfl rfl 51 (.tmp 8) rfl (N := 50) rfl rfl _ Tryd.underlying51 rfl (by kernel_rfl) ?_)) | ((with_reducible refine gate_dst (N := 51) rfl ?_); go_must (refine ev_litb HS rfl (N := 51) rfl (cs := ((exA e1 (.slice vA vn vc))).toArray) (e := 51) (n := 1) ?hrun ?_); (case hrun => first | (go_simp; done) | (go_simp; rfl)); clear HS; intro g51 w HS; replace HS := rot3 HS) | ((with_reducible refine gate_store (t := 51) (p := 4) rfl ?_); go_must (refine ev_store HS 6 rfl rfl 51 (.tmp 4) (.tmp 52) rfl rfl rfl [.int .i64 4, .int .i64 p.f0, .int .i64 p.f1, .int .i64 0, .string nm, .int .i64 0, .slice (some ⟨g51, 0, none⟩) 1 1] ?hx (by kernel_rfl) (by rfl) ?h1 ?_); (case hx => first | rfl | (go_simp; done)); (case h1 => simp [Value.oneCell']); clear HS; intro w HS))
      refine ret_row HS 6 rfl (p := 4) rfl rfl _ Tryd.underlying51 rfl (by kernel_rfl) rfl ?_
      replace HS := HS.erase 3
      replace HS := HS.erase 4
      replace HS := HS.erase 4
      replace HS := HS.erase 4
      exact ⟨some ⟨g51, 0, none⟩, 1, 1, rfl, ex_of_row ⟨4, p, 0, nm, 0, [e1]⟩ (row_one e1 (rot4 HS))⟩
  | false =>
  rw [if_neg (by rw [ht]; decide)] at hp
  have HT3 := Aside0.mk (fun (w : World) (L : List Chunk) (HS : Sat W0 w (psB g A0 c0 all.length s1 :: tkR A0 c0 all :: L)) => show Calls Tryd.prog 23 #[.pointer (some ⟨g, 0, none⟩), .string ⟨#[91]⟩] w fun r w' => r = .returned (.bool false) ∧ Sat W0 w' (psB g A0 c0 all.length s1 :: tkR A0 c0 all :: L) from take_no h ht HS)
  clear ht
  cases ht : (takeP s1 (bs [40])).1 with
  | true =>
    rw [if_pos ht] at hp
    obtain ⟨s2, hs2⟩ : ∃ x, x = (takeP s1 (bs [40])).2 := ⟨_, rfl⟩
    have HT4 := Aside0.mk (fun (w : World) (L : List Chunk) (HS : Sat W0 w (psB g A0 c0 all.length s1 :: tkR A0 c0 all :: L)) => show Calls Tryd.prog 23 #[.pointer (some ⟨g, 0, none⟩), .string ⟨#[40]⟩] w fun r w' => r = .returned (.bool true) ∧ Sat W0 w' (psB g A0 c0 all.length (takeP s1 (bs [40])).2 :: tkR A0 c0 all :: L) from take_at h ht HS)
    have h2 := h.take (bs [40])
    rw [← hs2] at HT4 h2 hp
    clear hs2
    cases he : argsP F s2 with
    | none => rw [he] at hp; cases hp
    | some r =>
      obtain ⟨e1, s3⟩ := r
      rw [he] at hp
      obtain ⟨rfl, rfl⟩ := pair_inj hp
      have HAR := Aside0.mk (fun (w : World) (M : List Chunk) (hM : OldIn W0 M) (HS : Sat W0 w (psB g A0 c0 all.length s2 :: tkR A0 c0 all :: M)) => ar_d hA W0 w M g A0 c0 s2 e1 s3 HGL.out hM h2 he HS)
      clear hp h hF hW hA ht h2 he
      go_enter Tryd.func96, Tryd.ntmps96
      go_upto_region 1 with (first | ((with_reducible refine gate_dst (N := 3) rfl ?_); go_must (refine ev_box HS rfl (N := 3) rfl (cs := #[.int .i64 p.f0, .int .i64 p.f1]) (t := 32) ?hrun ?_); (case hrun => first | (go_simp; done) | (go_simp; rfl)); clear HS; intro g3 w HS; replace HS := rot3 HS) | ((with_reducible refine gate_dst (N := 4) rfl ?_); go_must (refine ev_box HS rfl (N := 4) rfl (cs := #[.int .i64 0, .int .i64 0, .int .i64 0, .int .i64 0, .string ⟨#[]⟩, .int .i64 0, .slice none 0 0]) (t := 51) ?hrun ?_); (case hrun => first | (go_simp; done) | (go_simp; rfl)); clear HS; intro g4 w HS; replace HS := rot3 HS))
      go_upto_region 2 with (first | ((try (refine gate_guard (by rfl) ?_; dsimp only)); go_at_call 22; (first | (with_reducible refine (HNW.out _ _ HS).mono ?_)); rintro e_ w_ ⟨rfl, HS_⟩; clear HS; have HS := HS_; clear HS_) | ((with_reducible refine gate_dst (N := 5) rfl ?_); go_must (refine ev_box HS rfl (N := 5) rfl (cs := #[.int .i64 0, .string ⟨#[]⟩, .int .i64 0, .int .i64 0, .int .i64 0]) (t := 71) ?hrun ?_); (case hrun => first | (go_simp; done) | (go_simp; rfl)); clear HS; intro g5 w HS; replace HS := rot3 HS) | ((with_reducible refine gate_store (t := 71) (p := 5) rfl ?_); go_must (refine ev_store HS 2 rfl rfl 71 (.tmp 5) (.tmp 10) rfl rfl rfl [.int .i64 t.f0, .string t.f1, .int .i64 t.f2, .int .i64 t.f3.f0, .int .i64 t.f3.f1] ?hx (by kernel_rfl) (by rfl) ?h1 ?_); (case hx => first | rfl | (go_simp; done)); (case h1 => simp [Value.oneCell']); clear HS; intro w HS))
      have cb0 := HS.cell 2 rfl
      go_upto_region 19 with (first | ((try (refine gate_guard (by rfl) ?_; dsimp only)); go_at_call 23; (first | (with_reducible refine (HT0.out _ _ HS).mono ?_) | (with_reducible refine (HT1.out _ _ HS).mono ?_) | (with_reducible refine (HT2.out _ _ HS).mono ?_) | (with_reducible refine (HT3.out _ _ HS).mono ?_) | (with_reducible refine (HT4.out _ _ HS).mono ?_)); rintro e_ w_ ⟨rfl, HS_⟩; clear HS; have HS := HS_; clear HS_) | ((try (refine gate_guard (by rfl) ?_; dsimp only)); go_at_call 45; (first | (with_reducible refine (HNM.out _ _ HS).mono ?_)); rintro e_ w_ ⟨rfl, HS_⟩; clear HS; have HS := HS_; clear HS_))
      refine start_ (n := 6) (S := fun w' => HasB W0 w' (blk g3 32 #[.int .i64 p.f0, .int .i64 p.f1])) (ds := []) #[false, false, false, false, false, false] (by kernel_rfl) rfl rfl ⟨_, 4, rfl, HS.drew⟩ (fun hHeld => ?_)
      replace HS := HS.drew
      generalize World.drew w_ = w at HS hHeld ⊢
      refine take_ (i := 0) (N := some 56) (v := ?_) (a' := ?_) #[true, false, false, false, false, false] rfl rfl (by kernel_rfl) (fun _ _ _ h => h) (Or.inl ⟨by rfl, ?_⟩) hHeld ?_ ?_
      rotate_left
      · rintro w' hS
        refine whole_hb hS 32 (.tmp 3) ?_ ?_ _ Tryd.underlying32 rfl (by kernel_rfl) <;> rfl
      rotate_left
      · (try simp only [Act.put, List.setIfInBounds_toArray, List.set_cons_zero, List.set_cons_succ, i64_w, i32_w])
        rfl
      refine pure_ (i := 1) (N := some 57) (v := ?_) (a' := ?_) #[true, true, false, false, false, false] rfl rfl (by kernel_rfl) (fun _ _ _ h => h) (Or.inl ⟨by rfl, ?_⟩) ?_ ?_
      rotate_left
      · intro w'
        go_simp
        with_reducible rfl
      rotate_left
      · (try simp only [Act.put, List.setIfInBounds_toArray, List.set_cons_zero, List.set_cons_succ, i64_w, i32_w])
        rfl
      refine pure_ (i := 2) (N := some 58) (v := ?_) (a' := ?_) #[true, true, true, false, false, false] rfl rfl (by kernel_rfl) (fun _ _ _ h => h) (Or.inl ⟨by rfl, ?_⟩) ?_ ?_
      rotate_left
      · intro w'
        go_simp
        with_reducible rfl
      rotate_left
      · (try simp only [Act.put, List.setIfInBounds_toArray, List.set_cons_zero, List.set_cons_succ, i64_w, i32_w])
        rfl
      refine one_ (i := 3) (N := some 59) #[true, true, true, true, false, false] rfl rfl (by kernel_rfl) (by decide) (fun K hK => ?_)
      refine goes_ Tryd.func98 (by kernel_rfl) rfl #[.pointer (some ⟨g, 0, none⟩)] (by rfl) rfl rfl (by (try simp only [List.map_toArray, List.map_cons, List.map_nil]); first | done | rfl) ?_
      refine (HAR.out _ _ (by repeat (first | exact HOLD.out | apply OldIn.cons)) HS).mono ?_
      rintro e_ w_ ⟨vA, vn, vc, rfl, HS_⟩
      refine ⟨_, rfl, ?_⟩
      clear HS
      have HS := HS_
      clear HS_
      replace HS := rot3 HS
      refine hK.out _ _ ⟨_, 5, rfl, HS⟩ (fun hHeld => ?_)
      clear hK K
      refine norm_ (a' := ?_) ?_ ?_
      rotate_left
      · show Act.put _ _ _ = _
        (try simp only [Act.put, List.setIfInBounds_toArray, List.set_cons_zero, List.set_cons_succ, i64_w, i32_w])
        rfl
      refine pure_ (i := 4) (N := some 60) (v := ?_) (a' := ?_) #[true, true, true, true, true, false] rfl rfl (by kernel_rfl) (fun _ _ _ h => h) (Or.inl ⟨by rfl, ?_⟩) ?_ ?_
      rotate_left
      · intro w'
        go_simp
        with_reducible rfl
      rotate_left
      · (try simp only [Act.put, List.setIfInBounds_toArray, List.set_cons_zero, List.set_cons_succ, i64_w, i32_w])
        rfl
      refine one_ (i := 5) (N := none) #[true, true, true, true, true, true] rfl rfl (by kernel_rfl) (by decide) (fun K hK => ?_)
      refine ev_store_step HS 4 rfl (by rfl) 51 (.tmp 4) (.tmp 60) rfl rfl rfl [.int .i64 5, .int .i64 p.f0, .int .i64 p.f1, .int .i64 0, .string nm, .int .i64 0, .slice vA vn vc] rfl (by kernel_rfl) (by rfl) (by simp [Value.oneCell']) ?_
      clear HS
      intro w HS
      refine hK.out _ _ ⟨_, 5, rfl, HS⟩ (fun hHeld => ?_)
      clear hK K
      refine done_ (by kernel_rfl) ?_
      clear hHeld
      go_wp2
      refine ret_row HS 4 rfl (p := 4) rfl rfl _ Tryd.underlying51 rfl (by kernel_rfl) rfl ?_
      replace HS := HS.erase 3
      replace HS := HS.erase 3
      replace HS := HS.erase 3
      exact ⟨vA, vn, vc, rfl, ex_of_row ⟨5, p, 0, nm, 0, e1⟩ (tor3 HS)⟩
  | false =>
    rw [if_neg (by rw [ht]; decide)] at hp
    obtain ⟨rfl, rfl⟩ := pair_inj hp
    have HT4 := Aside0.mk (fun (w : World) (L : List Chunk) (HS : Sat W0 w (psB g A0 c0 all.length s1 :: tkR A0 c0 all :: L)) => show Calls Tryd.prog 23 #[.pointer (some ⟨g, 0, none⟩), .string ⟨#[40]⟩] w fun r w' => r = .returned (.bool false) ∧ Sat W0 w' (psB g A0 c0 all.length s1 :: tkR A0 c0 all :: L) from take_no h ht HS)
    clear hp h hF hW hA ht
    go_enter Tryd.func96, Tryd.ntmps96
    go_upto_region 1 with (first | ((with_reducible refine gate_dst (N := 3) rfl ?_); go_must (refine ev_box HS rfl (N := 3) rfl (cs := #[.int .i64 p.f0, .int .i64 p.f1]) (t := 32) ?hrun ?_); (case hrun => first | (go_simp; done) | (go_simp; rfl)); clear HS; intro g3 w HS; replace HS := rot3 HS) | ((with_reducible refine gate_dst (N := 4) rfl ?_); go_must (refine ev_box HS rfl (N := 4) rfl (cs := #[.int .i64 0, .int .i64 0, .int .i64 0, .int .i64 0, .string ⟨#[]⟩, .int .i64 0, .slice none 0 0]) (t := 51) ?hrun ?_); (case hrun => first | (go_simp; done) | (go_simp; rfl)); clear HS; intro g4 w HS; replace HS := rot3 HS))
    go_upto_region 2 with (first | ((try (refine gate_guard (by rfl) ?_; dsimp only)); go_at_call 22; (first | (with_reducible refine (HNW.out _ _ HS).mono ?_)); rintro e_ w_ ⟨rfl, HS_⟩; clear HS; have HS := HS_; clear HS_) | ((with_reducible refine gate_dst (N := 5) rfl ?_); go_must (refine ev_box HS rfl (N := 5) rfl (cs := #[.int .i64 0, .string ⟨#[]⟩, .int .i64 0, .int .i64 0, .int .i64 0]) (t := 71) ?hrun ?_); (case hrun => first | (go_simp; done) | (go_simp; rfl)); clear HS; intro g5 w HS; replace HS := rot3 HS) | ((with_reducible refine gate_store (t := 71) (p := 5) rfl ?_); go_must (refine ev_store HS 2 rfl rfl 71 (.tmp 5) (.tmp 10) rfl rfl rfl [.int .i64 t.f0, .string t.f1, .int .i64 t.f2, .int .i64 t.f3.f0, .int .i64 t.f3.f1] ?hx (by kernel_rfl) (by rfl) ?h1 ?_); (case hx => first | rfl | (go_simp; done)); (case h1 => simp [Value.oneCell']); clear HS; intro w HS))
    have cb0 := HS.cell 2 rfl
    go_wp2_with (first | ((try (refine gate_guard (by rfl) ?_; dsimp only)); go_at_call 23; (first | (with_reducible refine (HT0.out _ _ HS).mono ?_) | (with_reducible refine (HT1.out _ _ HS).mono ?_) | (with_reducible refine (HT2.out _ _ HS).mono ?_) | (with_reducible refine (HT3.out _ _ HS).mono ?_) | (with_reducible refine (HT4.out _ _ HS).mono ?_)); rintro e_ w_ ⟨rfl, HS_⟩; clear HS; have HS := HS_; clear HS_) | ((try (refine gate_guard (by rfl) ?_; dsimp only)); go_at_call 45; (first | (with_reducible refine (HNM.out _ _ HS).mono ?_)); rintro e_ w_ ⟨rfl, HS_⟩; clear HS; have HS := HS_; clear HS_) | ((with_reducible refine gate_dst (N := 61) rfl ?_); (with_reducible refine gate_load (ty := 32) (p := 3) rfl ?_); (try (refine gate_guard (by rfl) ?_; dsimp only)); go_must (refine ev_load HS 4 rfl rfl 32 (.tmp 3) rfl (N := 61) rfl rfl _ Tryd.underlying32 rfl (by kernel_rfl) ?_)) | ((with_reducible refine gate_store (t := 51) (p := 4) rfl ?_); go_must (refine ev_store HS 3 rfl rfl 51 (.tmp 4) (.tmp 63) rfl rfl rfl [.int .i64 3, .int .i64 p.f0, .int .i64 p.f1, .int .i64 0, .string nm, .int .i64 0, .slice none 0 0] ?hx (by kernel_rfl) (by rfl) ?h1 ?_); (case hx => first | rfl | (go_simp; done)); (case h1 => simp [Value.oneCell']); clear HS; intro w HS))
    refine ret_row HS 3 rfl (p := 4) rfl rfl _ Tryd.underlying51 rfl (by kernel_rfl) rfl ?_
    replace HS := HS.erase 2
    replace HS := HS.erase 2
    replace HS := HS.erase 2
    exact ⟨none, 0, 0, rfl, ex_none ⟨3, p, 0, nm, 0, []⟩ rfl HS⟩
end Go.Proofs.YtenkganofobioaaDoor.B
