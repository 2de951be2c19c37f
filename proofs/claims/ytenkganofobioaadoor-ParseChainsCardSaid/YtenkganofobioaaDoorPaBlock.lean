/- Parsing: block. -/
import Derived.Test.YtenkganofobioaaDoorPaExpr
namespace Go.Proofs.YtenkganofobioaaDoor.B
open Go.RowKit Go.Proofs.YtenkganofobioaaDoor.Mine Go.Proofs.YtenkganofobioaaDoor.Sep Go.Proofs.YtenkganofobioaaDoorW.PrintWords Go.Proofs.YtenkganofobioaaDoorW.PrintLast Go.Proofs.YtenkganofobioaaDoorW.PrintMore
set_option linter.unusedVariables false
set_option linter.unusedSimpArgs false
attribute [local go_sem] Instr.field asAgg
theorem infoS : (Tryd.prog.info? 45).map (fun i => (i.zero, i.size, i.bytes)) = some (some (.agg #[.int .i64 0, .int .i64 0, .int .i64 0, .string ⟨#[]⟩, .slice none 0 0, .slice none 0 0, .slice none 0 0]), 7, 112) := by kernel_rfl
theorem stmts_len {F : Fns} : ∀ (k : Nat) (l : List ST) (s : PS) (l' : List ST) (s' : PS), stmtsP F k l s = some (l', s') → l'.length < l.length + k
  | 0, l, s, l', s', hc => by rw [stmtsP] at hc; cases hc
  | k + 1, l, s, l', s', hc => by
    rw [stmtsP] at hc
    split at hc
    · split at hc
      · cases hc
      · have := stmts_len k _ _ _ _ hc
        rw [List.length_append, List.length_singleton] at this
        omega
    · obtain ⟨rfl, rfl⟩ := pair_inj hc; omega
set_option maxRecDepth 100000 in
set_option maxHeartbeats 8000000 in
theorem block_walk {all : List TK} {F : Fns} (hF : FKeep all F) (hS : StD all 62 (stmtP F)) : BlD all 47 [] (blockP F) := by
  intro W0 w L g A0 c0 s e s' hG ho h hp HS
  have HOLD := Aside0.mk ho
  have HGL := Aside0.mk hG
  clear hG ho
  have hmf : ∀ (fn : Fn) (first cap : Array Value) (w : World), (Instr.makeFunc fn first cap).run Tryd.prog w = .ok (.func fn first cap) w := fun _ _ _ _ => rfl
  unfold blockP at hp
  simp only at hp
  have HW1 := Aside0.mk (fun (w : World) (L : List Chunk) (HS : Sat W0 w (psB g A0 c0 all.length s :: tkR A0 c0 all :: L)) => show Calls Tryd.prog 46 #[.pointer (some ⟨g, 0, none⟩), .string ⟨#[123]⟩] w fun r w' => r = .returned (.tuple #[]) ∧ Sat W0 w' (psB g A0 c0 all.length (wantP s (bs [123])) :: tkR A0 c0 all :: L) from want_callsP h HS (bs [123]))
  have h1 := h.want (bs [123])
  obtain ⟨s1, hs1⟩ : ∃ x, x = wantP s (bs [123]) := ⟨_, rfl⟩
  rw [← hs1] at hp HW1 h1
  clear hs1 h
  cases hd : (downP s1).1 with
  | false =>
    rw [if_neg (by rw [hd]; decide)] at hp
    obtain ⟨rfl, rfl⟩ := pair_inj hp
    have HDN := Aside0.mk (fun (w : World) (L : List Chunk) (HS : Sat W0 w (psB g A0 c0 all.length s1 :: tkR A0 c0 all :: L)) => down_at h1 hd HS)
    clear hp hd h1 hF hS
    go_enter_defers Tryd.func47, Tryd.ntmps47
    go_upto_region 1 with (first | ((with_reducible refine gate_dst (N := 1) rfl ?_); go_must (refine ev_box HS rfl (N := 1) rfl (cs := #[.pointer (some ⟨g, 0, none⟩)]) (t := 66) ?hrun ?_); (case hrun => first | (go_simp; done) | (go_simp; rfl)); clear HS; intro g1 w HS; replace HS := rot3 HS))
    have cb0 := HS.cell 2 rfl
    go_upto_region 2 with (first | ((try (refine gate_guard (by rfl) ?_; dsimp only)); go_at_call 46; (first | (with_reducible refine (HW1.out _ _ HS).mono ?_)); rintro e_ w_ ⟨rfl, HS_⟩; clear HS; have HS := HS_; clear HS_))
    clear cb0
    have cb0 := HS.cell 2 rfl
    go_wp2_with (first | ((try (refine gate_guard (by rfl) ?_; dsimp only)); go_at_call 60; (first | (with_reducible refine (HDN.out _ _ HS).mono ?_)); rintro e_ w_ ⟨rfl, HS_⟩; clear HS; have HS := HS_; clear HS_))
    refine ⟨_, results_tmp rfl _ _ _, ?_⟩
    replace HS := HS.erase 2
    exact ⟨none, 0, 0, rfl, HS.nil k45 45⟩
  | true =>
    rw [if_pos hd] at hp
    have HDN := Aside0.mk (fun (w : World) (L : List Chunk) (HS : Sat W0 w (psB g A0 c0 all.length s1 :: tkR A0 c0 all :: L)) => down_at h1 hd HS)
    have h2 := h1.down
    obtain ⟨s2, hs2⟩ : ∃ x, x = (downP s1).2 := ⟨_, rfl⟩
    rw [← hs2] at hp HDN h2
    clear hs2 hd h1
    cases hl : stmtsP F (s2.ts.length + 2) [] s2 with
    | none => rw [hl] at hp; cases hp
    | some r =>
      obtain ⟨l1, s3⟩ := r
      rw [hl] at hp
      obtain ⟨rfl, rfl⟩ := pair_inj hp
      have HLL := Aside0.mk hl
      have HPO := Aside0.mk h2
      have HLN := Aside0.mk (show s2.ts.length ≤ 65537 from by have := h2.len.2; have := h2.few; omega)
      have HFK := Aside0.mk hF
      have HST := Aside0.mk hS
      clear hp hl h2 hF hS
      go_enter_defers Tryd.func47, Tryd.ntmps47
      go_upto_region 1 with (first | ((with_reducible refine gate_dst (N := 1) rfl ?_); go_must (refine ev_box HS rfl (N := 1) rfl (cs := #[.pointer (some ⟨g, 0, none⟩)]) (t := 66) ?hrun ?_); (case hrun => first | (go_simp; done) | (go_simp; rfl)); clear HS; intro g1 w HS; replace HS := rot3 HS))
      have cb0 := HS.cell 2 rfl
      go_upto_region 2 with (first | ((try (refine gate_guard (by rfl) ?_; dsimp only)); go_at_call 46; (first | (with_reducible refine (HW1.out _ _ HS).mono ?_)); rintro e_ w_ ⟨rfl, HS_⟩; clear HS; have HS := HS_; clear HS_))
      clear cb0
      have cb0 := HS.cell 2 rfl
      go_upto_region 4 with (first | ((try (refine gate_guard (by rfl) ?_; dsimp only)); go_at_call 60; (first | (with_reducible refine (HDN.out _ _ HS).mono ?_)); rintro e_ w_ ⟨rfl, HS_⟩; clear HS; have HS := HS_; clear HS_))
      go_upto_region 5 with (fail)
      have HS := rot3 (HS.nil k45 45)
      go_wp2
      go_loopg [3] (s2.ts.length + 3) (fun kq v3 w' => ∃ (k : Nat) (A : Option Addr) (c : Nat) (l : List ST) (sc : PS), v3 = .slice A l.length c ∧ Aside0 (POk all sc ∧ k + l.length = s2.ts.length + 2 ∧ k < kq ∧ stmtsP F k l sc = some (l1, s3)) ∧ Aside0 (Sat W0 w' (psB g A0 c0 all.length sc :: tkR A0 c0 all :: row k45 45 (.slice A l.length c) l :: blk g1 66 #[.pointer (some ⟨g, 0, none⟩)] :: L)))
      case atStart => exact ⟨s2.ts.length + 2, none, 0, [], s2, rfl, ⟨HPO.out, rfl, by omega, HLL.out⟩, ⟨HS⟩⟩
      case round =>
        clear HS cb0
        obtain ⟨k, A, c, l, sc, rfl, HI, HS'⟩ := hrel
        have HS := HS'.out
        clear HS'
        cases gk with
        | zero => have := HI.out.2.2.1; omega
        | succ k1 =>
          cases k with
          | zero => have := HI.out.2.2.2; rw [stmtsP] at this; cases this
          | succ k =>
            have hsc := HI.out.1
            have hc := HI.out.2.2.2
            rw [stmtsP] at hc
            have cb0 := HS.cell 3 rfl
            cases hb : badP sc with
            | true =>
              rw [hb] at hc
              obtain ⟨rfl, rfl⟩ := pair_inj hc
              have HBD := Aside0.mk (fun (w : World) (L : List Chunk) (HS : Sat W0 w (psB g A0 c0 all.length sc :: tkR A0 c0 all :: L)) => bad_at hb HS)
              have HWT := Aside0.mk (fun (w : World) (L : List Chunk) (HS : Sat W0 w (psB g A0 c0 all.length sc :: tkR A0 c0 all :: L)) => show Calls Tryd.prog 46 #[.pointer (some ⟨g, 0, none⟩), .string ⟨#[125]⟩] w fun r w' => r = .returned (.tuple #[]) ∧ Sat W0 w' (psB g A0 c0 all.length (wantP sc (bs [125])) :: tkR A0 c0 all :: L) from want_callsP hsc HS (bs [125]))
              have hwk := hsc.want (bs [125])
              have HUP := Aside0.mk (fun (w : World) (gb : Nat) (L : List Chunk) (HS : Sat W0 w (psB g A0 c0 all.length (wantP sc (bs [125])) :: blk gb 66 #[.pointer (some ⟨g, 0, none⟩)] :: L)) => upb_d (u := .returning) hwk.d0 hwk.d1 HS)
              clear hsc hwk hc hb
              go_wp2_with (first | ((try (refine gate_guard (by rfl) ?_; dsimp only)); go_at_call 21; (first | (with_reducible refine (HBD.out _ _ HS).mono ?_)); rintro e_ w_ ⟨rfl, HS_⟩; clear HS; have HS := HS_; clear HS_; clear cb0; have cb0 := HS.cell 3 rfl) | ((try (refine gate_guard (by rfl) ?_; dsimp only)); go_at_call 46; (first | (with_reducible refine (HWT.out _ _ HS).mono ?_)); rintro e_ w_ ⟨rfl, HS_⟩; clear HS; have HS := HS_; clear HS_))
              refine leaves_cons (f := 61) (args := #[.pointer (some ⟨g1, 0, none⟩)]) (by simp) (by simp [go_sem]) ?_
              refine (HUP.out _ _ _ ((HS.front 3 rfl).swap)).mono ?_
              rintro e_ u' w ⟨rfl, rfl, HS_⟩
              refine ⟨_, results_tmp rfl _ _ _, ?_⟩
              exact ⟨A, l.length, c, rfl, tor3 (HS_.erase 1)⟩
            | false =>
              have HBD := Aside0.mk (fun (w : World) (L : List Chunk) (HS : Sat W0 w (psB g A0 c0 all.length sc :: tkR A0 c0 all :: L)) => bad_at hb HS)
              cases hi : isP sc (bs [125]) with
              | true =>
                rw [hb, hi] at hc
                obtain ⟨rfl, rfl⟩ := pair_inj hc
                have HIS := Aside0.mk (fun (w : World) (L : List Chunk) (HS : Sat W0 w (psB g A0 c0 all.length sc :: tkR A0 c0 all :: L)) => show Calls Tryd.prog 43 #[.pointer (some ⟨g, 0, none⟩), .string ⟨#[125]⟩] w _ from is_at hsc hi HS)
                have HWT := Aside0.mk (fun (w : World) (L : List Chunk) (HS : Sat W0 w (psB g A0 c0 all.length sc :: tkR A0 c0 all :: L)) => show Calls Tryd.prog 46 #[.pointer (some ⟨g, 0, none⟩), .string ⟨#[125]⟩] w fun r w' => r = .returned (.tuple #[]) ∧ Sat W0 w' (psB g A0 c0 all.length (wantP sc (bs [125])) :: tkR A0 c0 all :: L) from want_callsP hsc HS (bs [125]))
                have hwk := hsc.want (bs [125])
                have HUP := Aside0.mk (fun (w : World) (gb : Nat) (L : List Chunk) (HS : Sat W0 w (psB g A0 c0 all.length (wantP sc (bs [125])) :: blk gb 66 #[.pointer (some ⟨g, 0, none⟩)] :: L)) => upb_d (u := .returning) hwk.d0 hwk.d1 HS)
                clear hsc hwk hc hb hi
                go_wp2_with (first | ((try (refine gate_guard (by rfl) ?_; dsimp only)); go_at_call 21; (first | (with_reducible refine (HBD.out _ _ HS).mono ?_)); rintro e_ w_ ⟨rfl, HS_⟩; clear HS; have HS := HS_; clear HS_; clear cb0; have cb0 := HS.cell 3 rfl) | ((try (refine gate_guard (by rfl) ?_; dsimp only)); go_at_call 43; (first | (with_reducible refine (HIS.out _ _ HS).mono ?_)); rintro e_ w_ ⟨rfl, HS_⟩; clear HS; have HS := HS_; clear HS_; clear cb0; have cb0 := HS.cell 3 rfl) | ((try (refine gate_guard (by rfl) ?_; dsimp only)); go_at_call 46; (first | (with_reducible refine (HWT.out _ _ HS).mono ?_)); rintro e_ w_ ⟨rfl, HS_⟩; clear HS; have HS := HS_; clear HS_))
                refine leaves_cons (f := 61) (args := #[.pointer (some ⟨g1, 0, none⟩)]) (by simp) (by simp [go_sem]) ?_
                refine (HUP.out _ _ _ ((HS.front 3 rfl).swap)).mono ?_
                rintro e_ u' w ⟨rfl, rfl, HS_⟩
                refine ⟨_, results_tmp rfl _ _ _, ?_⟩
                exact ⟨A, l.length, c, rfl, tor3 (HS_.erase 1)⟩
              | false =>
                have HIS := Aside0.mk (fun (w : World) (L : List Chunk) (HS : Sat W0 w (psB g A0 c0 all.length sc :: tkR A0 c0 all :: L)) => show Calls Tryd.prog 43 #[.pointer (some ⟨g, 0, none⟩), .string ⟨#[125]⟩] w _ from is_at hsc hi HS)
                rw [hb, hi] at hc
                simp only [Bool.not_false, Bool.and_true, if_true] at hc
                cases hst : stmtP F sc with
                | none => rw [hst] at hc; cases hc
                | some r2 =>
                  obtain ⟨e1, s4⟩ := r2
                  rw [hst] at hc
                  have hk4 := Aside0.mk (stmt_keeps HFK.out sc e1 s4 hsc hst).1
                  have HC := Aside0.mk (show stmtsP F k (l ++ [e1]) s4 = some (l1, s3) from hc)
                  have hLB := Aside0.mk (show (l.length + 1) * 112 ≤ 140737488355328 from by have := HI.out.2.1; have := HLN.out; omega)
                  have HSM := Aside0.mk (fun (w : World) (M : List Chunk) (hM : OldIn W0 M) (HS : Sat W0 w (psB g A0 c0 all.length sc :: tkR A0 c0 all :: M)) => HST.out W0 w M g A0 c0 sc e1 s4 HGL.out hM hsc hst HS)
                  clear hc hst hb hi hsc
                  go_wp2_with (first | ((try (refine gate_guard (by rfl) ?_; dsimp only)); go_at_call 21; (first | (with_reducible refine (HBD.out _ _ HS).mono ?_)); rintro e_ w_ ⟨rfl, HS_⟩; clear HS; have HS := HS_; clear HS_; clear cb0; have cb0 := HS.cell 3 rfl) | ((try (refine gate_guard (by rfl) ?_; dsimp only)); go_at_call 43; (first | (with_reducible refine (HIS.out _ _ HS).mono ?_)); rintro e_ w_ ⟨rfl, HS_⟩; clear HS; have HS := HS_; clear HS_; clear cb0; have cb0 := HS.cell 3 rfl) | ((try (refine gate_guard (by rfl) ?_; dsimp only)); go_at_call 62; refine (HSM.out _ _ (by repeat (first | exact HOLD.out | apply OldIn.cons)) HS).mono ?_; rintro e_ w_ ⟨vA, vB, vC, va, vb, vc, va', vb', vc', rfl, HS_⟩; clear HS; have HS := HS_; clear HS_; replace HS := rot3 HS) | ((with_reducible refine gate_dst (N := 21) rfl ?_); go_must (refine ev_litb HS rfl (N := 21) rfl (cs := ((stA e1 (.slice vA va va') (.slice vB vb vb') (.slice vC vc vc'))).toArray) (e := 45) (n := 1) ?hrun ?_); (case hrun => first | (go_simp; done) | (go_simp; rfl)); clear HS; intro g21 w HS; replace HS := rot3 HS; replace HS := (row_st e1 (rot4 HS)).front 3 rfl) | ((with_reducible refine gate_builtin (b := .append) (xs := #[.tmp 18, .tmp 21]) rfl ?_); go_must (refine ev_append_own k45 (.tmp 18) (.tmp 21) 39 45 (.agg #[.int .i64 0, .int .i64 0, .int .i64 0, .string ⟨#[]⟩, .slice none 0 0, .slice none 0 0, .slice none 0 0]) 112 HS rfl rfl rfl rfl Tryd.underlying39 infoS rfl (by show 0 < 7; decide) (by omega) hLB.out ?_); clear HS; intro v22 w HS))
                  obtain ⟨A1, c1, rfl⟩ := HS.slice 0 rfl
                  go_roundg k1
                  case measure => exact Nat.lt_succ_self _
                  case rel => exact ⟨k, A1, c1, l ++ [e1], s4, rfl, ⟨hk4.out, by rw [List.length_append, List.length_singleton]; have := HI.out.2.1; omega, by have := HI.out.2.2.1; omega, HC.out⟩, ⟨rot3 HS⟩⟩
end Go.Proofs.YtenkganofobioaaDoor.B
