/- Parsing: expr. -/
import Derived.Test.YtenkganofobioaaDoorPaPrimary
namespace Go.Proofs.YtenkganofobioaaDoor.B
open Go.RowKit Go.Proofs.YtenkganofobioaaDoor.Mine Go.Proofs.YtenkganofobioaaDoor.Sep Go.Proofs.YtenkganofobioaaDoorW.PrintWords Go.Proofs.YtenkganofobioaaDoorW.PrintLast Go.Proofs.YtenkganofobioaaDoorW.PrintMore
set_option linter.unusedVariables false
set_option linter.unusedSimpArgs false
attribute [local go_sem] Instr.field asAgg
theorem both_d {W0 w : World} {L : List Chunk} (hG : GL W0) (ho : OldIn W0 L) (m : List UInt8) (p : S32) (a b : EX) {vA uA : Option Addr} {vn vc un uc : Nat} (HS : Sat W0 w (exV a (.slice vA vn vc) :: exV b (.slice uA un uc) :: L)) :
    Calls Tryd.prog 94 #[.string (bs m), .agg #[.int .i64 p.f0, .int .i64 p.f1], .agg (exA a (.slice vA vn vc)).toArray, .agg (exA b (.slice uA un uc)).toArray] w fun r w' => ∃ (A : Option Addr) (n c : Nat), r = .returned (.agg (exA (bothP m p a b) (.slice A n c)).toArray) ∧ Sat W0 w' (exV (bothP m p a b) (.slice A n c) :: L) := by
  obtain ⟨io, hio⟩ := ho
  exact both_calls hG io hio m p a b HS
theorem mark_d {W0 w : World} {L : List Chunk} {g : Nat} {A0 : Addr} {c0 : Nat} {all : List S71} {s : PS} (h : POk all s) (l : List (List UInt8)) (hl : l.length ≤ 100) (hne : ∀ x ∈ l, x ≠ []) (A : Addr) (cl : Nat) (ho : OldIn W0 L) (hA : StrsIn W0 A l) (HS : Sat W0 w (psB g A0 c0 all.length s :: tkR A0 c0 all :: L)) :
    Calls Tryd.prog 93 #[.pointer (some ⟨g, 0, none⟩), .slice (some A) l.length cl] w fun r w' => r = .returned (.string (bs (markOf s l))) ∧ Sat W0 w' (psB g A0 c0 all.length s :: tkR A0 c0 all :: L) := by
  obtain ⟨io, hio⟩ := ho
  exact mark_calls h l hl hne A cl io hio hA HS
theorem lev_small : ∀ i : Nat, i < 5 → (levelList.getD i []).length ≤ 100 ∧ ∀ x ∈ levelList.getD i [], x ≠ [] := by decide
theorem lev_get {i : Nat} (h : i < 5) : levelList[i]? = some (levelList.getD i []) := by
  rw [List.getD_eq_getElem?_getD, List.getElem?_eq_getElem (by simpa using h)]; rfl
theorem wp_norm_ {P : Program} {c : Code} {Q : Exit → Act → World → Prop} {a a' : Act} {w : World} (ha : a = a') (h : c.wp P Q a' w) : c.wp P Q a w := by subst ha; exact h
/-- expr from a level on, the next level's ones given. -/
def lvP (next : PS → Option (EX × PS)) (lv : Nat) (s : PS) : Option (EX × PS) := match next s with
  | none => none
  | some (e, s1) => chainP next lv (s1.ts.length + 1) e s1
theorem exprP_succ (F : Fns) (n : Nat) : exprP F (n + 1) = lvP (exprP F n) (4 - n) := rfl
set_option maxRecDepth 100000 in
set_option maxHeartbeats 8000000 in
theorem lv_walk {all : List TK} {next : PS → Option (EX × PS)} (hK : ∀ s e s', POk all s → next s = some (e, s') → POk all s') (lv : Nat) (hlv : lv < 5) (hN : ExC all 86 [.int .i64 ((lv : Int) + 1)] next) : ExC all 86 [.int .i64 (lv : Int)] (lvP next lv) := by
  intro W0 w L g A0 c0 io s e s' hG hio h hp HS
  have HOLD := Aside0.mk (show OldIn W0 L from ⟨io, hio⟩)
  have HGL := Aside0.mk hG
  have HOB3 := Aside0.mk (fun (w : World) (c1 c2 c3 : Chunk) (HS : Sat W0 w (c1 :: c2 :: c3 :: L)) => HS.old (io + 3) (by simpa using hio))
  have HOB5 := Aside0.mk (fun (w : World) (c1 c2 c3 c4 c5 : Chunk) (HS : Sat W0 w (c1 :: c2 :: c3 :: c4 :: c5 :: L)) => HS.old (io + 5) (by simpa using hio))
  obtain ⟨lA, lc, hl0, hl1⟩ := hG.levels
  obtain ⟨lB, lb, hl2, hl3⟩ := hl1 lv _ (lev_get hlv)
  have hsm := lev_small lv hlv
  obtain ⟨l, hl⟩ : ∃ l, l = levelList.getD lv [] := ⟨_, rfl⟩
  rw [← hl] at hl2 hl3 hsm
  obtain ⟨QI, hQI⟩ : ∃ z : Int, z = (lv : Int) := ⟨_, rfl⟩
  have hqt : QI.toNat = lv := by omega
  rw [← hqt] at hl2
  rw [← hQI] at hN ⊢
  have HL0 := Aside0.mk hl0
  have HL2 := Aside0.mk hl2
  have HL3 := Aside0.mk (And.intro hl3 hsm)
  have HKP := Aside0.mk hK
  have HNX := Aside0.mk (ex_d hN)
  have HLE := Aside0.mk hl
  have hw : wrap64 (QI + 1) = QI + 1 := w64 _ (by omega) (by omega)
  have c1_ : (QI == 5) = false := beq_eq_false_iff_ne.2 (by omega)
  have r1 : (0 ≤ QI) = True := eq_true (by omega)
  have r2 : (QI < 5) = True := eq_true (by omega)
  have HQ2 := Aside0.mk (show (QI == 2) = decide (lv = 2) from by rw [Bool.eq_iff_iff]; simp; omega)
  clear hG hio hl0 hl1 hl2 hl3 hsm hK hN hlv hQI hqt
  unfold lvP at hp
  cases he0 : next s with
  | none => rw [he0] at hp; cases hp
  | some r0 =>
    obtain ⟨e0, s0⟩ := r0
    rw [he0] at hp
    simp only at hp
    have HP := Aside0.mk hp
    have h0 := HKP.out _ _ _ h he0
    have HE0 := Aside0.mk (fun (w : World) (M : List Chunk) (hM : OldIn W0 M) (HS : Sat W0 w (psB g A0 c0 all.length s :: tkR A0 c0 all :: M)) => HNX.out W0 w M g A0 c0 s e0 s0 HGL.out hM h he0 HS)
    have H0 := Aside0.mk h0
    clear hp he0 h h0 hl
    go_enter Tryd.func86, Tryd.ntmps86
    go_upto_region 1 with (first | ((with_reducible refine gate_dst (N := 4) rfl ?_); go_must (refine ev_box HS rfl (N := 4) rfl (cs := #[.int .i64 0, .int .i64 0, .int .i64 0, .int .i64 0, .string ⟨#[]⟩, .int .i64 0, .slice none 0 0]) (t := 51) ?hrun ?_); (case hrun => first | (go_simp; done) | (go_simp; rfl)); clear HS; intro g4 w HS; replace HS := rot3 HS))
    have cg := cell_below HL0.out (HOB3.out _ _ _ _ HS)
    go_upto_region 3 with (fail)
    clear cg
    go_wp2_with (first | ((try (refine gate_guard (by rfl) ?_; dsimp only)); go_at_call 86; refine (HE0.out _ _ (by repeat (first | exact HOLD.out | apply OldIn.cons)) HS).mono ?_; rintro e_ w_ ⟨vA, vn, vc, rfl, HS_⟩; clear HS; have HS := HS_; clear HS_; replace HS := rot3 HS) | ((with_reducible refine gate_dst (N := 5) rfl ?_); go_must (refine ev_box HS rfl (N := 5) rfl (cs := #[.int .i64 0, .int .i64 0, .int .i64 0, .int .i64 0, .string ⟨#[]⟩, .int .i64 0, .slice none 0 0]) (t := 51) ?hrun ?_); (case hrun => first | (go_simp; done) | (go_simp; rfl)); clear HS; intro g5 w HS; replace HS := rot3 HS) | ((with_reducible refine gate_store (t := 51) (p := 5) rfl ?_); go_must (refine ev_store HS 2 rfl rfl 51 (.tmp 5) (.tmp 18) rfl rfl rfl (exA e0 (.slice vA vn vc)) ?hx (by kernel_rfl) (by rfl) ?h1 ?_); (case hx => first | rfl | (go_simp; done)); (case h1 => simp [Value.oneCell']); clear HS; intro w HS))
    refine wp_norm_ (a' := ?_) ?_ ?_
    rotate_left
    · show Act.put _ _ _ = _
      (try simp only [Act.put, List.setIfInBounds_toArray, List.set_cons_zero, List.set_cons_succ, i64_w, i32_w])
      rfl
    go_loopg [] (s0.ts.length + 2) (fun kq w' => ∃ (k : Nat) (e1 : EX) (A : Option Addr) (n c : Nat) (s1 : PS), Aside0 (k < kq ∧ POk all s1 ∧ chainP next lv k e1 s1 = some (e, s')) ∧ Aside0 (Sat W0 w' (psB g A0 c0 all.length s1 :: tkR A0 c0 all :: blk g5 51 (exA e1 (.slice A n c)).toArray :: exV e1 (.slice A n c) :: blk g4 51 #[.int .i64 0, .int .i64 0, .int .i64 0, .int .i64 0, .string ⟨#[]⟩, .int .i64 0, .slice none 0 0] :: L)))
    case atStart => exact ⟨s0.ts.length + 1, e0, vA, vn, vc, s0, ⟨by omega, H0.out, HP.out⟩, ⟨HS⟩⟩
    case round =>
      clear HS HP H0 HE0
      obtain ⟨k, e1, A, n, c, s1, HI, HS'⟩ := hrel
      have HS := HS'.out
      clear HS'
      cases gk with
      | zero => have := HI.out.1; omega
      | succ k1 =>
        cases k with
        | zero => have := HI.out.2.2; rw [chainP] at this; cases this
        | succ k =>
          have h1 := HI.out.2.1
          have hc := HI.out.2.2
          rw [chainP, ← HLE.out] at hc
          cases hb : badP s1 with
          | true =>
            rw [if_pos hb] at hc
            obtain ⟨rfl, rfl⟩ := pair_inj hc
            have HBD := Aside0.mk (fun (w : World) (L : List Chunk) (HS : Sat W0 w (psB g A0 c0 all.length s1 :: tkR A0 c0 all :: L)) => bad_at hb HS)
            clear hb hc h1
            go_wp2_with (first | ((try (refine gate_guard (by rfl) ?_; dsimp only)); go_at_call 21; (first | (with_reducible refine (HBD.out _ _ HS).mono ?_)); rintro e_ w_ ⟨rfl, HS_⟩; clear HS; have HS := HS_; clear HS_) | ((with_reducible refine gate_dst (N := 44) rfl ?_); (with_reducible refine gate_load (ty := 51) (p := 5) rfl ?_); (try (refine gate_guard (by rfl) ?_; dsimp only)); go_must (refine ev_load HS 2 rfl rfl 51 (.tmp 5) rfl (N := 44) rfl rfl _ Tryd.underlying51 rfl (by kernel_rfl) ?_)) | ((with_reducible refine gate_store (t := 51) (p := 4) rfl ?_); go_must (refine ev_store HS 4 rfl rfl 51 (.tmp 4) (.tmp 44) rfl rfl rfl (exA e1 (.slice A n c)) ?hx (by kernel_rfl) (by rfl) ?h1 ?_); (case hx => first | rfl | (go_simp; done)); (case h1 => simp [Value.oneCell']); clear HS; intro w HS))
            refine ret_row HS 4 rfl (p := 4) rfl rfl _ Tryd.underlying51 rfl (by kernel_rfl) rfl ?_
            replace HS := HS.erase 2
            replace HS := HS.erase 3
            exact ⟨A, n, c, rfl, tor3 HS⟩
          | false =>
            rw [if_neg (by rw [hb]; decide)] at hc
            have HBD := Aside0.mk (fun (w : World) (L : List Chunk) (HS : Sat W0 w (psB g A0 c0 all.length s1 :: tkR A0 c0 all :: L)) => bad_at hb HS)
            have HMK := Aside0.mk (fun (w : World) (M : List Chunk) (hM : OldIn W0 M) (HS : Sat W0 w (psB g A0 c0 all.length s1 :: tkR A0 c0 all :: M)) => mark_d h1 l HL3.out.2.1 HL3.out.2.2 lB lb hM HL3.out.1 HS)
            obtain ⟨m, hm⟩ : ∃ m, m = markOf s1 l := ⟨_, rfl⟩
            rw [← hm] at hc HMK
            clear hm hb
            have em : (bs m).toList = m := by simp [bs]
            by_cases hm0 : m = []
            · rw [if_pos hm0] at hc
              obtain ⟨rfl, rfl⟩ := pair_inj hc
              have c2_ : m.isEmpty = true := by rw [hm0]; rfl
              have c3_ : (m == []) = true := by rw [hm0]; rfl
              clear hm0 hc h1
              go_upto_region 5 with (first | ((try (refine gate_guard (by rfl) ?_; dsimp only)); go_at_call 21; (first | (with_reducible refine (HBD.out _ _ HS).mono ?_)); rintro e_ w_ ⟨rfl, HS_⟩; clear HS; have HS := HS_; clear HS_))
              have cg := cell_below HL0.out (HOB5.out _ _ _ _ _ _ HS)
              have cg2 := cell_below HL2.out (HOB5.out _ _ _ _ _ _ HS)
              go_wp2_with (first | ((try (refine gate_guard (by rfl) ?_; dsimp only)); go_at_call 93; refine (HMK.out _ _ (by repeat (first | exact HOLD.out | apply OldIn.cons)) HS).mono ?_; rintro e_ w_ ⟨rfl, HS_⟩; clear HS; have HS := HS_; clear HS_) | ((with_reducible refine gate_dst (N := 44) rfl ?_); (with_reducible refine gate_load (ty := 51) (p := 5) rfl ?_); (try (refine gate_guard (by rfl) ?_; dsimp only)); go_must (refine ev_load HS 2 rfl rfl 51 (.tmp 5) rfl (N := 44) rfl rfl _ Tryd.underlying51 rfl (by kernel_rfl) ?_)) | ((with_reducible refine gate_store (t := 51) (p := 4) rfl ?_); go_must (refine ev_store HS 4 rfl rfl 51 (.tmp 4) (.tmp 44) rfl rfl rfl (exA e1 (.slice A n c)) ?hx (by kernel_rfl) (by rfl) ?h1 ?_); (case hx => first | rfl | (go_simp; done)); (case h1 => simp [Value.oneCell']); clear HS; intro w HS))
              refine ret_row HS 4 rfl (p := 4) rfl rfl _ Tryd.underlying51 rfl (by kernel_rfl) rfl ?_
              replace HS := HS.erase 2
              replace HS := HS.erase 3
              exact ⟨A, n, c, rfl, tor3 HS⟩
            · rw [if_neg hm0] at hc
              have c2_ : m.isEmpty = false := by cases m with
                | nil => exact absurd rfl hm0
                | cons a b => rfl
              have c3_ : (m == []) = false := beq_eq_false_iff_ne.2 hm0
              clear hm0
              cases he1 : next (skipP s1) with
              | none => rw [he1] at hc; cases hc
              | some r1 =>
                obtain ⟨y, s2⟩ := r1
                rw [he1] at hc
                simp only at hc
                have h2 := HKP.out _ _ _ h1.skip he1
                have HSK := Aside0.mk (fun (w : World) (L : List Chunk) (HS : Sat W0 w (psB g A0 c0 all.length s1 :: tkR A0 c0 all :: L)) => show Calls Tryd.prog 44 #[.pointer (some ⟨g, 0, none⟩)] w _ from skip_callsP h1 HS)
                try unfold tkA at HSK
                have HNE := Aside0.mk (fun (w : World) (M : List Chunk) (hM : OldIn W0 M) (HS : Sat W0 w (psB g A0 c0 all.length (skipP s1) :: tkR A0 c0 all :: M)) => HNX.out W0 w M g A0 c0 (skipP s1) y s2 HGL.out hM h1.skip he1 HS)
                obtain ⟨t, ht⟩ : ∃ t, t = nowP s1 := ⟨_, rfl⟩
                rw [← ht] at HSK hc
                have HBT := Aside0.mk (fun (w : World) (M : List Chunk) (hM : OldIn W0 M) {uA : Option Addr} {un uc : Nat} (HS : Sat W0 w (exV e1 (.slice A n c) :: exV y (.slice uA un uc) :: M)) => both_d HGL.out hM m t.f3 e1 y HS)
                obtain ⟨bb, hbb⟩ : ∃ bb, bb = bothP m t.f3 e1 y := ⟨_, rfl⟩
                rw [← hbb] at HBT hc
                have H2 := Aside0.mk h2
                clear ht hbb he1 h1 h2
                by_cases hl2 : lv = 2
                · rw [if_pos hl2] at hc
                  obtain ⟨rfl, rfl⟩ := pair_inj hc
                  have c4_ : (QI == 2) = true := by rw [HQ2.out, decide_eq_true hl2]
                  clear hl2 hc
                  go_upto_region 5 with (first | ((try (refine gate_guard (by rfl) ?_; dsimp only)); go_at_call 21; (first | (with_reducible refine (HBD.out _ _ HS).mono ?_)); rintro e_ w_ ⟨rfl, HS_⟩; clear HS; have HS := HS_; clear HS_))
                  have cg := cell_below HL0.out (HOB5.out _ _ _ _ _ _ HS)
                  have cg2 := cell_below HL2.out (HOB5.out _ _ _ _ _ _ HS)
                  go_upto_region 7 with (first | ((try (refine gate_guard (by rfl) ?_; dsimp only)); go_at_call 93; refine (HMK.out _ _ (by repeat (first | exact HOLD.out | apply OldIn.cons)) HS).mono ?_; rintro e_ w_ ⟨rfl, HS_⟩; clear HS; have HS := HS_; clear HS_))
                  clear cg cg2
                  go_upto_region 8 with (first | ((try (refine gate_guard (by rfl) ?_; dsimp only)); go_at_call 44; (first | (with_reducible refine (HSK.out _ _ HS).mono ?_)); rintro e_ w_ ⟨rfl, HS_⟩; clear HS; have HS := HS_; clear HS_) | ((with_reducible refine gate_dst (N := 7) rfl ?_); go_must (refine ev_box HS rfl (N := 7) rfl (cs := #[.int .i64 0, .int .i64 0]) (t := 32) ?hrun ?_); (case hrun => first | (go_simp; done) | (go_simp; rfl)); clear HS; intro g7 w HS; replace HS := rot3 HS) | ((with_reducible refine gate_store (t := 32) (p := 7) rfl ?_); go_must (refine ev_store HS 2 rfl rfl 32 (.tmp 7) (.tmp 32) rfl rfl rfl [.int .i64 t.f3.f0, .int .i64 t.f3.f1] ?hx (by kernel_rfl) (by rfl) ?h1 ?_); (case hx => first | rfl | (go_simp; done)); (case h1 => simp [Value.oneCell']); clear HS; intro w HS))
                  go_upto_region 9 with (first | ((try (refine gate_guard (by rfl) ?_; dsimp only)); go_at_call 86; refine (HNE.out _ _ (by repeat (first | exact HOLD.out | apply OldIn.cons)) HS).mono ?_; rintro e_ w_ ⟨uA, un, uc, rfl, HS_⟩; clear HS; have HS := HS_; clear HS_; replace HS := rot3 HS) | ((with_reducible refine gate_dst (N := 8) rfl ?_); go_must (refine ev_box HS rfl (N := 8) rfl (cs := #[.int .i64 0, .int .i64 0, .int .i64 0, .int .i64 0, .string ⟨#[]⟩, .int .i64 0, .slice none 0 0]) (t := 51) ?hrun ?_); (case hrun => first | (go_simp; done) | (go_simp; rfl)); clear HS; intro g8 w HS; replace HS := rot3 HS) | ((with_reducible refine gate_store (t := 51) (p := 8) rfl ?_); go_must (refine ev_store HS 2 rfl rfl 51 (.tmp 8) (.tmp 36) rfl rfl rfl (exA y (.slice uA un uc)) ?hx (by kernel_rfl) (by rfl) ?h1 ?_); (case hx => first | rfl | (go_simp; done)); (case h1 => simp [Value.oneCell']); clear HS; intro w HS))
                  go_wp2_with (first | ((with_reducible refine gate_dst (N := 38) rfl ?_); (with_reducible refine gate_load (ty := 32) (p := 7) rfl ?_); (try (refine gate_guard (by rfl) ?_; dsimp only)); go_must (refine ev_load HS 4 rfl rfl 32 (.tmp 7) rfl (N := 38) rfl rfl _ Tryd.underlying32 rfl (by kernel_rfl) ?_)) | ((with_reducible refine gate_dst (N := 39) rfl ?_); (with_reducible refine gate_load (ty := 51) (p := 5) rfl ?_); (try (refine gate_guard (by rfl) ?_; dsimp only)); go_must (refine ev_load HS 5 rfl rfl 51 (.tmp 5) rfl (N := 39) rfl rfl _ Tryd.underlying51 rfl (by kernel_rfl) ?_)) | ((with_reducible refine gate_dst (N := 40) rfl ?_); (with_reducible refine gate_load (ty := 51) (p := 8) rfl ?_); (try (refine gate_guard (by rfl) ?_; dsimp only)); go_must (refine ev_load HS 2 rfl rfl 51 (.tmp 8) rfl (N := 40) rfl rfl _ Tryd.underlying51 rfl (by kernel_rfl) ?_)) | (go_at_call 94; refine (HBT.out _ _ (by repeat (first | exact HOLD.out | apply OldIn.cons)) ((HS.front 3 rfl).front 6 rfl)).mono ?_; rintro e_ w_ ⟨bA, bn, bc, rfl, HS_⟩; clear HS; have HS := HS_; clear HS_; replace HS := rot3 HS) | ((with_reducible refine gate_store (t := 51) (p := 5) rfl ?_); go_must (refine ev_store HS 5 rfl rfl 51 (.tmp 5) (.tmp 41) rfl rfl rfl (exA bb (.slice bA bn bc)) ?hx (by kernel_rfl) (by rfl) ?h1 ?_); (case hx => first | rfl | (go_simp; done)); (case h1 => simp [Value.oneCell']); clear HS; intro w HS) | ((with_reducible refine gate_dst (N := 44) rfl ?_); (with_reducible refine gate_load (ty := 51) (p := 5) rfl ?_); (try (refine gate_guard (by rfl) ?_; dsimp only)); go_must (refine ev_load HS 5 rfl rfl 51 (.tmp 5) rfl (N := 44) rfl rfl _ Tryd.underlying51 rfl (by kernel_rfl) ?_)) | ((with_reducible refine gate_store (t := 51) (p := 4) rfl ?_); go_must (refine ev_store HS 6 rfl rfl 51 (.tmp 4) (.tmp 44) rfl rfl rfl (exA bb (.slice bA bn bc)) ?hx (by kernel_rfl) (by rfl) ?h1 ?_); (case hx => first | rfl | (go_simp; done)); (case h1 => simp [Value.oneCell']); clear HS; intro w HS))
                  refine ret_row HS 6 rfl (p := 4) rfl rfl _ Tryd.underlying51 rfl (by kernel_rfl) rfl ?_
                  replace HS := HS.erase 3
                  replace HS := HS.erase 3
                  replace HS := HS.erase 3
                  replace HS := HS.erase 3
                  exact ⟨bA, bn, bc, rfl, tor3 HS⟩
                · rw [if_neg hl2] at hc
                  have c4_ : (QI == 2) = false := by rw [HQ2.out, decide_eq_false hl2]
                  have HC := Aside0.mk hc
                  clear hl2 hc
                  go_upto_region 5 with (first | ((try (refine gate_guard (by rfl) ?_; dsimp only)); go_at_call 21; (first | (with_reducible refine (HBD.out _ _ HS).mono ?_)); rintro e_ w_ ⟨rfl, HS_⟩; clear HS; have HS := HS_; clear HS_))
                  have cg := cell_below HL0.out (HOB5.out _ _ _ _ _ _ HS)
                  have cg2 := cell_below HL2.out (HOB5.out _ _ _ _ _ _ HS)
                  go_upto_region 7 with (first | ((try (refine gate_guard (by rfl) ?_; dsimp only)); go_at_call 93; refine (HMK.out _ _ (by repeat (first | exact HOLD.out | apply OldIn.cons)) HS).mono ?_; rintro e_ w_ ⟨rfl, HS_⟩; clear HS; have HS := HS_; clear HS_))
                  clear cg cg2
                  go_upto_region 8 with (first | ((try (refine gate_guard (by rfl) ?_; dsimp only)); go_at_call 44; (first | (with_reducible refine (HSK.out _ _ HS).mono ?_)); rintro e_ w_ ⟨rfl, HS_⟩; clear HS; have HS := HS_; clear HS_) | ((with_reducible refine gate_dst (N := 7) rfl ?_); go_must (refine ev_box HS rfl (N := 7) rfl (cs := #[.int .i64 0, .int .i64 0]) (t := 32) ?hrun ?_); (case hrun => first | (go_simp; done) | (go_simp; rfl)); clear HS; intro g7 w HS; replace HS := rot3 HS) | ((with_reducible refine gate_store (t := 32) (p := 7) rfl ?_); go_must (refine ev_store HS 2 rfl rfl 32 (.tmp 7) (.tmp 32) rfl rfl rfl [.int .i64 t.f3.f0, .int .i64 t.f3.f1] ?hx (by kernel_rfl) (by rfl) ?h1 ?_); (case hx => first | rfl | (go_simp; done)); (case h1 => simp [Value.oneCell']); clear HS; intro w HS))
                  go_upto_region 9 with (first | ((try (refine gate_guard (by rfl) ?_; dsimp only)); go_at_call 86; refine (HNE.out _ _ (by repeat (first | exact HOLD.out | apply OldIn.cons)) HS).mono ?_; rintro e_ w_ ⟨uA, un, uc, rfl, HS_⟩; clear HS; have HS := HS_; clear HS_; replace HS := rot3 HS) | ((with_reducible refine gate_dst (N := 8) rfl ?_); go_must (refine ev_box HS rfl (N := 8) rfl (cs := #[.int .i64 0, .int .i64 0, .int .i64 0, .int .i64 0, .string ⟨#[]⟩, .int .i64 0, .slice none 0 0]) (t := 51) ?hrun ?_); (case hrun => first | (go_simp; done) | (go_simp; rfl)); clear HS; intro g8 w HS; replace HS := rot3 HS) | ((with_reducible refine gate_store (t := 51) (p := 8) rfl ?_); go_must (refine ev_store HS 2 rfl rfl 51 (.tmp 8) (.tmp 36) rfl rfl rfl (exA y (.slice uA un uc)) ?hx (by kernel_rfl) (by rfl) ?h1 ?_); (case hx => first | rfl | (go_simp; done)); (case h1 => simp [Value.oneCell']); clear HS; intro w HS))
                  go_wp2_with (first | ((with_reducible refine gate_dst (N := 38) rfl ?_); (with_reducible refine gate_load (ty := 32) (p := 7) rfl ?_); (try (refine gate_guard (by rfl) ?_; dsimp only)); go_must (refine ev_load HS 4 rfl rfl 32 (.tmp 7) rfl (N := 38) rfl rfl _ Tryd.underlying32 rfl (by kernel_rfl) ?_)) | ((with_reducible refine gate_dst (N := 39) rfl ?_); (with_reducible refine gate_load (ty := 51) (p := 5) rfl ?_); (try (refine gate_guard (by rfl) ?_; dsimp only)); go_must (refine ev_load HS 5 rfl rfl 51 (.tmp 5) rfl (N := 39) rfl rfl _ Tryd.underlying51 rfl (by kernel_rfl) ?_)) | ((with_reducible refine gate_dst (N := 40) rfl ?_); (with_reducible refine gate_load (ty := 51) (p := 8) rfl ?_); (try (refine gate_guard (by rfl) ?_; dsimp only)); go_must (refine ev_load HS 2 rfl rfl 51 (.tmp 8) rfl (N := 40) rfl rfl _ Tryd.underlying51 rfl (by kernel_rfl) ?_)) | (go_at_call 94; refine (HBT.out _ _ (by repeat (first | exact HOLD.out | apply OldIn.cons)) ((HS.front 3 rfl).front 6 rfl)).mono ?_; rintro e_ w_ ⟨bA, bn, bc, rfl, HS_⟩; clear HS; have HS := HS_; clear HS_; replace HS := rot3 HS) | ((with_reducible refine gate_store (t := 51) (p := 5) rfl ?_); go_must (refine ev_store HS 5 rfl rfl 51 (.tmp 5) (.tmp 41) rfl rfl rfl (exA bb (.slice bA bn bc)) ?hx (by kernel_rfl) (by rfl) ?h1 ?_); (case hx => first | rfl | (go_simp; done)); (case h1 => simp [Value.oneCell']); clear HS; intro w HS))
                  replace HS := HS.erase 3
                  replace HS := HS.erase 3
                  replace HS := rot3 (HS.front 3 rfl)
                  go_roundg k1
                  case measure => exact Nat.lt_succ_self _
                  case rel => exact ⟨k, bb, bA, bn, bc, s2, ⟨by have := HI.out.1; omega, H2.out, HC.out⟩, ⟨HS⟩⟩
set_option maxRecDepth 100000 in
set_option maxHeartbeats 8000000 in
theorem lv0_walk {all : List TK} {p0 : PS → Option (EX × PS)} (hU : ExC all 92 [] p0) : ExC all 86 [.int .i64 5] p0 := by
  intro W0 w L g A0 c0 io s e s' hG hio h hp HS
  have HOLD := Aside0.mk (show OldIn W0 L from ⟨io, hio⟩)
  have HGL := Aside0.mk hG
  have HOB3 := Aside0.mk (fun (w : World) (c1 c2 c3 : Chunk) (HS : Sat W0 w (c1 :: c2 :: c3 :: L)) => HS.old (io + 3) (by simpa using hio))
  obtain ⟨lA, lc, hl0, hl1⟩ := hG.levels
  have HL0 := Aside0.mk hl0
  have HUN := Aside0.mk (fun (w : World) (M : List Chunk) (hM : OldIn W0 M) (HS : Sat W0 w (psB g A0 c0 all.length s :: tkR A0 c0 all :: M)) => ex_d hU W0 w M g A0 c0 s e s' HGL.out hM h hp HS)
  clear hG hio hl0 hl1 hp h hU
  go_enter Tryd.func86, Tryd.ntmps86
  go_upto_region 1 with (first | ((with_reducible refine gate_dst (N := 4) rfl ?_); go_must (refine ev_box HS rfl (N := 4) rfl (cs := #[.int .i64 0, .int .i64 0, .int .i64 0, .int .i64 0, .string ⟨#[]⟩, .int .i64 0, .slice none 0 0]) (t := 51) ?hrun ?_); (case hrun => first | (go_simp; done) | (go_simp; rfl)); clear HS; intro g4 w HS; replace HS := rot3 HS))
  have cg := cell_below HL0.out (HOB3.out _ _ _ _ HS)
  go_wp2_with (first | ((try (refine gate_guard (by rfl) ?_; dsimp only)); go_at_call 92; refine (HUN.out _ _ (by repeat (first | exact HOLD.out | apply OldIn.cons)) HS).mono ?_; rintro e_ w_ ⟨vA, vn, vc, rfl, HS_⟩; clear HS; have HS := HS_; clear HS_; replace HS := rot3 HS) | ((with_reducible refine gate_store (t := 51) (p := 4) rfl ?_); go_must (refine ev_store HS 3 rfl rfl 51 (.tmp 4) (.tmp 14) rfl rfl rfl (exA e (.slice vA vn vc)) ?hx (by kernel_rfl) (by rfl) ?h1 ?_); (case hx => first | rfl | (go_simp; done)); (case h1 => simp [Value.oneCell']); clear HS; intro w HS))
  refine ret_row HS 3 rfl (p := 4) rfl rfl _ Tryd.underlying51 rfl (by kernel_rfl) rfl ?_
  replace HS := HS.erase 3
  exact ⟨vA, vn, vc, rfl, tor3 HS⟩
theorem expr_walk {all : List TK} {F : Fns} (hF : FKeep all F) (hU : ExC all 92 [] F.unary) : ∀ n : Nat, n ≤ 5 → ExC all 86 [.int .i64 ((5 - n : Nat) : Int)] (exprP F n)
  | 0, _ => lv0_walk (p0 := exprP F 0) hU
  | n + 1, hn => by
    rw [exprP_succ]
    have e1 : 5 - (n + 1) = 4 - n := by omega
    rw [e1]
    refine lv_walk (fun s e s' h hp => (expr_keeps hF n s e s' h hp).1) (4 - n) (by omega) ?_
    have e2 : (((4 - n : Nat) : Int) + 1) = ((5 - n : Nat) : Int) := by omega
    rw [e2]
    exact expr_walk hF hU n (by omega)
end Go.Proofs.YtenkganofobioaaDoor.B
