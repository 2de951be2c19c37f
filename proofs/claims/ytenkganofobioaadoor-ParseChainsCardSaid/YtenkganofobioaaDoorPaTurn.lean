/- Parsing: turn. -/
import Derived.Test.YtenkganofobioaaDoorPaBlock
namespace Go.Proofs.YtenkganofobioaaDoor.B
open Go.RowKit Go.Proofs.YtenkganofobioaaDoor.Mine Go.Proofs.YtenkganofobioaaDoor.Sep Go.Proofs.YtenkganofobioaaDoorW.PrintWords Go.Proofs.YtenkganofobioaaDoorW.PrintLast Go.Proofs.YtenkganofobioaaDoorW.PrintMore
set_option linter.unusedVariables false
set_option linter.unusedSimpArgs false
attribute [local go_sem] Instr.field asAgg
theorem ev_litb_step {P : Program} {ops : Array Oper} {o : Oper} {a : Act} {Q : Exit → Act → World → Prop} {Kc : Act → World → Prop} {W0 w : World} {L : List Chunk} (HS : Sat W0 w L) (hw : Region.wanted o (yielded ops a.tmps) = true) {N : Tmp} (hd : o.dst = some N) {e n : Nat} {cs : Array Value}
    (hrun : (execOp a.eval o).run P w = .ok (.value (.slice (some ⟨w.heap.size, 0, none⟩) n n)) (w.alloc (.cells cs e (0, 0))))
    (h : ∀ g w1, Sat W0 w1 (blk g e cs :: L) → Kc (a.put (some N) (.slice (some ⟨g, 0, none⟩) n n)) w1) : if Region.wanted o (yielded ops a.tmps) = true then Oper.wp P o a w Kc Q else Kc (a.put (some N) undef) w := by
  rw [if_pos hw]
  unfold Oper.wp
  rw [hrun]
  show Kc (a.put o.dst _) _
  rw [hd]
  exact h _ _ (HS.alloc e cs)
theorem ex_open1 {W0 w : World} {L : List Chunk} {x : EX} {v : Value} (HS : Sat W0 w (row k51 51 v [x] :: L)) :
    ∃ (g cap : Nat) (arr : Array Value) (A : Option Addr) (n c : Nat), v = .slice (some ⟨g, 0, none⟩) 1 cap ∧ (∀ (j : Nat) (u : Value), (exA x (.slice A n c))[j]? = some u → arr[j]? = some u) ∧ Sat W0 w (blk g 51 arr :: exV x (.slice A n c) :: L) := by
  obtain ⟨S, ⟨h1, cs, h2, h3⟩, hlt, hput⟩ := HS.open 0 rfl
  obtain ⟨hl, h2⟩ := h2
  rcases h2 with h2 | ⟨g, cap, arr, rfl, h4, h5, h6, h7, h8, h9⟩
  · exact absurd h2.2 (by simp)
  · have h10 := h3.2 0 x rfl
    have hl' : cs.length = 7 := hl
    have e0 : (cs.drop (0 * k51.sz)).take k51.sz = cs := by
      rw [Nat.zero_mul, List.drop_zero]
      exact List.take_of_length_le (by rw [hl']; exact Nat.le_refl 7)
    rw [e0] at h10
    obtain ⟨v6, e6, hr⟩ := k51_openM h10
    obtain ⟨A, c, rfl⟩ := Kd.R_slice hr
    subst e6
    refine ⟨g, cap, arr, A, x.f5.length, c, rfl, fun j u hj => ?_, ?_⟩
    · change [Value.int .i64 x.f0, .int .i64 x.f1.f0, .int .i64 x.f1.f1, .int .i64 x.f2, .string x.f3, .int .i64 x.f4, .slice A x.f5.length c][j]? = some u at hj
      rw [← h9, List.getElem?_take] at hj
      split at hj
      · rw [← Array.getElem?_toList]; exact hj
      · cases hj
    · refine Sat.split (hput w (two (blk g 51 arr) (exV x (.slice A x.f5.length c))) ⟨rfl, rfl, rfl, Nat.le_refl _, fun _ _ _ => rfl⟩ ?_)
      refine ⟨fun k => k = g, fun k => S k ∧ some k ≠ (Value.slice (some ⟨g, 0, none⟩) [x].length cap).ownBlock, ⟨h5, rfl⟩, h10, fun k hk => .inl (h1 k (by subst hk; rfl)), fun k hk => .inl hk.1, fun k hk hk2 => hk2.2 (by subst hk; rfl)⟩
/-- A statement's value out of its row of expressions alone. -/
theorem st_e {W0 w : World} {L : List Chunk} (x : ST) {v4 : Value} (h5 : x.f4 = []) (h6 : x.f5 = []) (HS : Sat W0 w (row k51 51 v4 x.f3 :: L)) : Sat W0 w (stV x v4 (.slice none 0 0) (.slice none 0 0) :: L) := by
  have h1 := HS.nil k45 45
  have h2 := h1.nil k45 45
  refine st_of_rows x ?_
  rw [h5, h6]
  exact rot3 (rot3 h2)
theorem st_0 {W0 w : World} {L : List Chunk} (x : ST) (h4 : x.f3 = []) (h5 : x.f4 = []) (h6 : x.f5 = []) (HS : Sat W0 w L) : Sat W0 w (stV x (.slice none 0 0) (.slice none 0 0) (.slice none 0 0) :: L) := by
  have h1 := HS.nil k51 51
  refine st_e x h5 h6 ?_
  rw [h4]
  exact h1
/-- Two parts are among those that stand. -/
def HasB2 (W0 w : World) (c c' : Chunk) : Prop := ∃ (L : List Chunk) (i j : Nat), L[i]? = some c ∧ L[j]? = some c' ∧ Sat W0 w L
theorem HasB2.one {W0 w : World} {c c' : Chunk} (h : HasB2 W0 w c c') : HasB W0 w c := by
  obtain ⟨L, i, j, hi, hj, HS⟩ := h
  exact ⟨L, i, hi, HS⟩
theorem HasB2.two {W0 w : World} {c c' : Chunk} (h : HasB2 W0 w c c') : HasB W0 w c' := by
  obtain ⟨L, i, j, hi, hj, HS⟩ := h
  exact ⟨L, j, hj, HS⟩
theorem part_hb {P : Program} {o : Oper} {a : Act} {W0 w : World} {g : Nat} {t : TypeId} {cs : Array Value} (HS : HasB W0 w (blk g t cs)) (ty : TypeId) (x : Operand) (ho : o.op = .load ty x) (hx : a.eval x = .pointer (some ⟨g, 0, none⟩)) (d : TypeDesc)
    (hu : P.underlying ty = some d) (hdd : (match d with | .struct _ | .array _ _ => true | _ => false) = true) (vs : List Value) (hin : (P.info? ty).map (·.size) = some vs.length) (hv : ∀ (j : Nat) (v : Value), vs[j]? = some v → cs[j]? = some v) : (execOp a.eval o).run P w = .ok (.value (.agg vs.toArray)) w := by
  obtain ⟨L, i, hi, HS⟩ := HS
  unfold execOp
  simp only [ho, hx, Instr.loadAt, Instr.sureAddr, Sem.run_bind, Sem.run_pure, Result.andThen_ok, run_loadVar_part w g t ty cs 0 vs d (HS.blk i hi) hu hdd hin (fun j v h => by rw [Nat.zero_add]; exact hv j v h)]
/-- An index has one part. -/
def Ix (e : EX) : Prop := e.f0 = 4 → ∃ k, e.f5 = [k]
structure FIx (F : Fns) : Prop where
  whole : ∀ s e s', F.whole s = some (e, s') → Ix e
  unary : ∀ s e s', F.unary s = some (e, s') → Ix e
theorem ix_kind {e : EX} (h : e.f0 ≠ 4) : Ix e := fun h4 => absurd h4 h
theorem both_ix (m : List UInt8) (p : S32) (a b : EX) : Ix (bothP m p a b) := by
  unfold bothP
  split
  · exact ix_kind (by simp)
  · split
    · exact ix_kind (by simp)
    · exact ix_kind (by simp)
theorem chain_ix {next : PS → Option (EX × PS)} (lv : Nat) : ∀ (k : Nat) (e : EX) (s : PS) (e' : EX) (s' : PS), Ix e → chainP next lv k e s = some (e', s') → Ix e'
  | 0, e, s, e', s', h, hc => by rw [chainP] at hc; cases hc
  | k + 1, e, s, e', s', h, hc => by
    rw [chainP] at hc
    split at hc
    · obtain ⟨rfl, rfl⟩ := pair_inj hc; exact h
    · split at hc
      · obtain ⟨rfl, rfl⟩ := pair_inj hc; exact h
      · split at hc
        · cases hc
        · split at hc
          · obtain ⟨rfl, rfl⟩ := pair_inj hc; exact both_ix _ _ _ _
          · exact chain_ix lv k _ _ _ _ (both_ix _ _ _ _) hc
theorem expr_ix {F : Fns} (hF : FIx F) : ∀ (n : Nat) (s : PS) (e : EX) (s' : PS), exprP F n s = some (e, s') → Ix e
  | 0, s, e, s', hc => hF.unary s e s' hc
  | n + 1, s, e, s', hc => by
    rw [exprP] at hc
    split at hc
    · cases hc
    · rename_i e1 s1 h1
      exact chain_ix _ _ _ _ _ _ (expr_ix hF n s e1 s1 h1) hc
theorem whole_ix {F : Fns} (hF : FIx F) (s : PS) (e : EX) (s' : PS) (hc : wholeP F s = some (e, s')) : Ix e := by
  unfold wholeP at hc
  split at hc
  · split at hc
    · cases hc
    · rename_i e1 s2 h1
      obtain ⟨rfl, rfl⟩ := pair_inj hc
      exact expr_ix hF 5 _ _ _ h1
  · obtain ⟨rfl, rfl⟩ := pair_inj hc
    exact ix_kind (by decide)
theorem primary_ix {F : Fns} (hF : FIx F) (p : S32) (s : PS) (e : EX) (s' : PS) (hc : primaryP F p s = some (e, s')) : Ix e := by
  unfold primaryP at hc
  simp only at hc
  split at hc
  · obtain ⟨rfl, rfl⟩ := pair_inj hc; exact ix_kind (by simp)
  split at hc
  · obtain ⟨rfl, rfl⟩ := pair_inj hc; exact ix_kind (by simp)
  split at hc
  · obtain ⟨rfl, rfl⟩ := pair_inj hc; exact ix_kind (by simp)
  split at hc
  · split at hc
    · cases hc
    · rename_i e1 s2 h1
      obtain ⟨rfl, rfl⟩ := pair_inj hc
      exact hF.whole _ _ _ h1
  split at hc
  · split at hc
    · cases hc
    · obtain ⟨rfl, rfl⟩ := pair_inj hc; exact fun _ => ⟨_, rfl⟩
  split at hc
  · split at hc
    · cases hc
    · obtain ⟨rfl, rfl⟩ := pair_inj hc; exact ix_kind (by simp)
  · obtain ⟨rfl, rfl⟩ := pair_inj hc; exact ix_kind (by simp)
theorem unary_ix {F : Fns} (hF : FIx F) (s : PS) (e : EX) (s' : PS) (hc : unaryP F s = some (e, s')) : Ix e := by
  unfold unaryP at hc
  split at hc
  · obtain ⟨rfl, rfl⟩ := pair_inj hc; exact ix_kind (by decide)
  split at hc
  · split at hc
    · split at hc
      · cases hc
      · split at hc
        · obtain ⟨rfl, rfl⟩ := pair_inj hc; exact ix_kind (by simp)
        · obtain ⟨rfl, rfl⟩ := pair_inj hc; exact ix_kind (by simp)
    · obtain ⟨rfl, rfl⟩ := pair_inj hc; exact ix_kind (by decide)
  · exact primary_ix hF _ _ _ _ hc
theorem fns_ix : ∀ k : Nat, FIx (fnsF k)
  | 0 => ⟨fun _ _ _ h => (nomatch h), fun _ _ _ h => (nomatch h)⟩
  | k + 1 => ⟨whole_ix (fns_ix k), unary_ix (fns_ix k)⟩
set_option maxRecDepth 100000 in
set_option maxHeartbeats 8000000 in
theorem turn_walk {all : List TK} {F : Fns} (hF : FKeep all F) (hX : FIx F) (hW : ExC all 73 [] F.whole) : StE all 75 (turnP F) := by
  intro W0 w L g A0 c0 at_ s e s' hG ho h hp HS
  have HOLD := Aside0.mk ho
  have HGL := Aside0.mk hG
  clear hG ho
  unfold turnP at hp
  cases he : F.whole s with
  | none => rw [he] at hp; cases hp
  | some r =>
  obtain ⟨e1, s1⟩ := r
  rw [he] at hp
  simp only at hp
  have h1 := (hF.whole _ _ _ h he).1
  have hix := hX.whole _ _ _ he
  have HWH := Aside0.mk (fun (w : World) (M : List Chunk) (hM : OldIn W0 M) (HS : Sat W0 w (psB g A0 c0 all.length s :: tkR A0 c0 all :: M)) => ex_d hW W0 w M g A0 c0 s e1 s1 HGL.out hM h he HS)
  clear he h hX
  cases hb : badP s1 with
  | true =>
    rw [if_pos hb] at hp
    obtain ⟨rfl, rfl⟩ := pair_inj hp
    have HBD := Aside0.mk (fun (w : World) (L : List Chunk) (HS : Sat W0 w (psB g A0 c0 all.length s1 :: tkR A0 c0 all :: L)) => bad_at hb HS)
    clear hp hb h1 hix hF hW
    go_enter Tryd.func75, Tryd.ntmps75
    go_upto_region 1 with (first | ((with_reducible refine gate_dst (N := 3) rfl ?_); go_must (refine ev_box HS rfl (N := 3) rfl (cs := #[.int .i64 0, .int .i64 at_.f0, .int .i64 at_.f1, .string ⟨#[]⟩, .slice none 0 0, .slice none 0 0, .slice none 0 0]) (t := 45) ?hrun ?_); (case hrun => first | (go_simp; done) | (go_simp; rfl)); clear HS; intro g3 w HS; replace HS := rot3 HS) | ((with_reducible refine gate_dst (N := 4) rfl ?_); go_must (refine ev_box HS rfl (N := 4) rfl (cs := #[.int .i64 0, .int .i64 0, .int .i64 0, .string ⟨#[]⟩, .slice none 0 0, .slice none 0 0, .slice none 0 0]) (t := 45) ?hrun ?_); (case hrun => first | (go_simp; done) | (go_simp; rfl)); clear HS; intro g4 w HS; replace HS := rot3 HS))
    go_upto_region 3 with (first | ((try (refine gate_guard (by rfl) ?_; dsimp only)); go_at_call 73; refine (HWH.out _ _ (by repeat (first | exact HOLD.out | apply OldIn.cons)) HS).mono ?_; rintro e_ w_ ⟨vA, vn, vc, rfl, HS_⟩; clear HS; have HS := HS_; clear HS_; replace HS := rot3 HS) | ((with_reducible refine gate_dst (N := 5) rfl ?_); go_must (refine ev_box HS rfl (N := 5) rfl (cs := #[.int .i64 0, .int .i64 0, .int .i64 0, .int .i64 0, .string ⟨#[]⟩, .int .i64 0, .slice none 0 0]) (t := 51) ?hrun ?_); (case hrun => first | (go_simp; done) | (go_simp; rfl)); clear HS; intro g5 w HS; replace HS := rot3 HS) | ((with_reducible refine gate_store (t := 51) (p := 5) rfl ?_); go_must (refine ev_store HS 2 rfl rfl 51 (.tmp 5) (.tmp 7) rfl rfl rfl (exA e1 (.slice vA vn vc)) ?hx (by kernel_rfl) (by rfl) ?h1 ?_); (case hx => first | rfl | (go_simp; done)); (case h1 => simp [Value.oneCell']); clear HS; intro w HS))
    go_wp2_with (first | ((try (refine gate_guard (by rfl) ?_; dsimp only)); go_at_call 21; (first | (with_reducible refine (HBD.out _ _ HS).mono ?_)); rintro e_ w_ ⟨rfl, HS_⟩; clear HS; have HS := HS_; clear HS_) | ((with_reducible refine gate_dst (N := 57) rfl ?_); (with_reducible refine gate_load (ty := 45) (p := 3) rfl ?_); (try (refine gate_guard (by rfl) ?_; dsimp only)); go_must (refine ev_load HS 5 rfl rfl 45 (.tmp 3) rfl (N := 57) rfl rfl _ Tryd.underlying45 rfl (by kernel_rfl) ?_)) | ((with_reducible refine gate_store (t := 45) (p := 4) rfl ?_); go_must (refine ev_store HS 4 rfl rfl 45 (.tmp 4) (.tmp 57) rfl rfl rfl [.int .i64 0, .int .i64 at_.f0, .int .i64 at_.f1, .string ⟨#[]⟩, .slice none 0 0, .slice none 0 0, .slice none 0 0] ?hx (by kernel_rfl) (by rfl) ?h1 ?_); (case hx => first | rfl | (go_simp; done)); (case h1 => simp [Value.oneCell']); clear HS; intro w HS))
    refine ret_row HS 4 rfl (p := 4) rfl rfl _ Tryd.underlying45 rfl (by kernel_rfl) rfl ?_
    replace HS := HS.erase 2
    replace HS := HS.erase 2
    replace HS := HS.erase 2
    replace HS := HS.erase 2
    exact ⟨none, none, none, 0, 0, 0, 0, 0, 0, rfl, st_0 ⟨0, at_, bs [], [], [], []⟩ rfl rfl rfl HS⟩
  | false =>
  rw [if_neg (by rw [hb]; decide)] at hp
  have HBD := Aside0.mk (fun (w : World) (L : List Chunk) (HS : Sat W0 w (psB g A0 c0 all.length s1 :: tkR A0 c0 all :: L)) => bad_at hb HS)
  clear hb
  cases k3 : (e1.f0 == 3) with
  | true =>
    have k4 : (e1.f0 == 4) = false := by have := eq_of_beq k3; rw [this]; rfl
    have k5 : (e1.f0 == 5) = false := by have := eq_of_beq k3; rw [this]; rfl
    rw [k3] at hp
    simp only [Bool.true_and] at hp
    cases ht : (takeP s1 (bs [61])).1 with
    | false =>
      rw [if_neg (by rw [ht]; decide), k4, k5] at hp
      simp only [Bool.false_and, Bool.false_eq_true, if_false] at hp
      obtain ⟨rfl, rfl⟩ := pair_inj hp
      have HFL := Aside0.mk (fun (w : World) (L : List Chunk) (HS : Sat W0 w (psB g A0 c0 all.length s1 :: tkR A0 c0 all :: L)) => fail_callsP h1 HS 12)
      have HTK := Aside0.mk (fun (w : World) (L : List Chunk) (HS : Sat W0 w (psB g A0 c0 all.length s1 :: tkR A0 c0 all :: L)) => show Calls Tryd.prog 23 #[.pointer (some ⟨g, 0, none⟩), .string ⟨#[61]⟩] w fun r w' => r = .returned (.bool false) ∧ Sat W0 w' (psB g A0 c0 all.length s1 :: tkR A0 c0 all :: L) from take_no h1 ht HS)
      clear ht
      clear hp h1 hix hF hW
      go_enter Tryd.func75, Tryd.ntmps75
      go_upto_region 1 with (first | ((with_reducible refine gate_dst (N := 3) rfl ?_); go_must (refine ev_box HS rfl (N := 3) rfl (cs := #[.int .i64 0, .int .i64 at_.f0, .int .i64 at_.f1, .string ⟨#[]⟩, .slice none 0 0, .slice none 0 0, .slice none 0 0]) (t := 45) ?hrun ?_); (case hrun => first | (go_simp; done) | (go_simp; rfl)); clear HS; intro g3 w HS; replace HS := rot3 HS) | ((with_reducible refine gate_dst (N := 4) rfl ?_); go_must (refine ev_box HS rfl (N := 4) rfl (cs := #[.int .i64 0, .int .i64 0, .int .i64 0, .string ⟨#[]⟩, .slice none 0 0, .slice none 0 0, .slice none 0 0]) (t := 45) ?hrun ?_); (case hrun => first | (go_simp; done) | (go_simp; rfl)); clear HS; intro g4 w HS; replace HS := rot3 HS))
      go_upto_region 3 with (first | ((try (refine gate_guard (by rfl) ?_; dsimp only)); go_at_call 73; refine (HWH.out _ _ (by repeat (first | exact HOLD.out | apply OldIn.cons)) HS).mono ?_; rintro e_ w_ ⟨vA, vn, vc, rfl, HS_⟩; clear HS; have HS := HS_; clear HS_; replace HS := rot3 HS) | ((with_reducible refine gate_dst (N := 5) rfl ?_); go_must (refine ev_box HS rfl (N := 5) rfl (cs := #[.int .i64 0, .int .i64 0, .int .i64 0, .int .i64 0, .string ⟨#[]⟩, .int .i64 0, .slice none 0 0]) (t := 51) ?hrun ?_); (case hrun => first | (go_simp; done) | (go_simp; rfl)); clear HS; intro g5 w HS; replace HS := rot3 HS) | ((with_reducible refine gate_store (t := 51) (p := 5) rfl ?_); go_must (refine ev_store HS 2 rfl rfl 51 (.tmp 5) (.tmp 7) rfl rfl rfl (exA e1 (.slice vA vn vc)) ?hx (by kernel_rfl) (by rfl) ?h1 ?_); (case hx => first | rfl | (go_simp; done)); (case h1 => simp [Value.oneCell']); clear HS; intro w HS))
      go_upto_region 4 with (first | ((try (refine gate_guard (by rfl) ?_; dsimp only)); go_at_call 21; (first | (with_reducible refine (HBD.out _ _ HS).mono ?_)); rintro e_ w_ ⟨rfl, HS_⟩; clear HS; have HS := HS_; clear HS_))
      have cb0 := HS.cell 2 rfl
      go_wp2_with (first | ((try (refine gate_guard (by rfl) ?_; dsimp only)); go_at_call 26; (first | (with_reducible refine (HFL.out _ _ HS).mono ?_)); rintro e_ w_ ⟨rfl, HS_⟩; clear HS; have HS := HS_; clear HS_) | ((try (refine gate_guard (by rfl) ?_; dsimp only)); go_at_call 23; (first | (with_reducible refine (HTK.out _ _ HS).mono ?_)); rintro e_ w_ ⟨rfl, HS_⟩; clear HS; have HS := HS_; clear HS_; clear cb0; have cb0 := HS.cell 2 rfl) | ((with_reducible refine gate_dst (N := 57) rfl ?_); (with_reducible refine gate_load (ty := 45) (p := 3) rfl ?_); (try (refine gate_guard (by rfl) ?_; dsimp only)); go_must (refine ev_load HS 5 rfl rfl 45 (.tmp 3) rfl (N := 57) rfl rfl _ Tryd.underlying45 rfl (by kernel_rfl) ?_)) | ((with_reducible refine gate_store (t := 45) (p := 4) rfl ?_); go_must (refine ev_store HS 4 rfl rfl 45 (.tmp 4) (.tmp 57) rfl rfl rfl [.int .i64 0, .int .i64 at_.f0, .int .i64 at_.f1, .string ⟨#[]⟩, .slice none 0 0, .slice none 0 0, .slice none 0 0] ?hx (by kernel_rfl) (by rfl) ?h1 ?_); (case hx => first | rfl | (go_simp; done)); (case h1 => simp [Value.oneCell']); clear HS; intro w HS))
      refine ret_row HS 4 rfl (p := 4) rfl rfl _ Tryd.underlying45 rfl (by kernel_rfl) rfl ?_
      replace HS := HS.erase 2
      replace HS := HS.erase 2
      replace HS := HS.erase 2
      replace HS := HS.erase 2
      exact ⟨none, none, none, 0, 0, 0, 0, 0, 0, rfl, st_0 ⟨0, at_, bs [], [], [], []⟩ rfl rfl rfl HS⟩
    | true =>
      rw [if_pos ht] at hp
      obtain ⟨s2, hs2⟩ : ∃ x, x = (takeP s1 (bs [61])).2 := ⟨_, rfl⟩
      have HTK := Aside0.mk (fun (w : World) (L : List Chunk) (HS : Sat W0 w (psB g A0 c0 all.length s1 :: tkR A0 c0 all :: L)) => show Calls Tryd.prog 23 #[.pointer (some ⟨g, 0, none⟩), .string ⟨#[61]⟩] w fun r w' => r = .returned (.bool true) ∧ Sat W0 w' (psB g A0 c0 all.length (takeP s1 (bs [61])).2 :: tkR A0 c0 all :: L) from take_at h1 ht HS)
      have h2 := h1.take (bs [61])
      rw [← hs2] at HTK h2 hp
      clear hs2 ht
      cases hy : F.whole s2 with
      | none => rw [hy] at hp; cases hp
      | some r2 =>
      obtain ⟨y, s3⟩ := r2
      rw [hy] at hp
      obtain ⟨rfl, rfl⟩ := pair_inj hp
      have HWY := Aside0.mk (fun (w : World) (M : List Chunk) (hM : OldIn W0 M) (HS : Sat W0 w (psB g A0 c0 all.length s2 :: tkR A0 c0 all :: M)) => ex_d hW W0 w M g A0 c0 s2 y s3 HGL.out hM h2 hy HS)
      clear hp h1 h2 hy hix hF hW
      go_enter Tryd.func75, Tryd.ntmps75
      go_upto_region 1 with (first | ((with_reducible refine gate_dst (N := 3) rfl ?_); go_must (refine ev_box HS rfl (N := 3) rfl (cs := #[.int .i64 0, .int .i64 at_.f0, .int .i64 at_.f1, .string ⟨#[]⟩, .slice none 0 0, .slice none 0 0, .slice none 0 0]) (t := 45) ?hrun ?_); (case hrun => first | (go_simp; done) | (go_simp; rfl)); clear HS; intro g3 w HS; replace HS := rot3 HS) | ((with_reducible refine gate_dst (N := 4) rfl ?_); go_must (refine ev_box HS rfl (N := 4) rfl (cs := #[.int .i64 0, .int .i64 0, .int .i64 0, .string ⟨#[]⟩, .slice none 0 0, .slice none 0 0, .slice none 0 0]) (t := 45) ?hrun ?_); (case hrun => first | (go_simp; done) | (go_simp; rfl)); clear HS; intro g4 w HS; replace HS := rot3 HS))
      go_upto_region 3 with (first | ((try (refine gate_guard (by rfl) ?_; dsimp only)); go_at_call 73; refine (HWH.out _ _ (by repeat (first | exact HOLD.out | apply OldIn.cons)) HS).mono ?_; rintro e_ w_ ⟨vA, vn, vc, rfl, HS_⟩; clear HS; have HS := HS_; clear HS_; replace HS := rot3 HS) | ((with_reducible refine gate_dst (N := 5) rfl ?_); go_must (refine ev_box HS rfl (N := 5) rfl (cs := #[.int .i64 0, .int .i64 0, .int .i64 0, .int .i64 0, .string ⟨#[]⟩, .int .i64 0, .slice none 0 0]) (t := 51) ?hrun ?_); (case hrun => first | (go_simp; done) | (go_simp; rfl)); clear HS; intro g5 w HS; replace HS := rot3 HS) | ((with_reducible refine gate_store (t := 51) (p := 5) rfl ?_); go_must (refine ev_store HS 2 rfl rfl 51 (.tmp 5) (.tmp 7) rfl rfl rfl (exA e1 (.slice vA vn vc)) ?hx (by kernel_rfl) (by rfl) ?h1 ?_); (case hx => first | rfl | (go_simp; done)); (case h1 => simp [Value.oneCell']); clear HS; intro w HS))
      go_upto_region 4 with (first | ((try (refine gate_guard (by rfl) ?_; dsimp only)); go_at_call 21; (first | (with_reducible refine (HBD.out _ _ HS).mono ?_)); rintro e_ w_ ⟨rfl, HS_⟩; clear HS; have HS := HS_; clear HS_))
      have cb0 := HS.cell 2 rfl
      go_upto_region 5 with (first | ((try (refine gate_guard (by rfl) ?_; dsimp only)); go_at_call 23; (first | (with_reducible refine (HTK.out _ _ HS).mono ?_)); rintro e_ w_ ⟨rfl, HS_⟩; clear HS; have HS := HS_; clear HS_; clear cb0; have cb0 := HS.cell 2 rfl))
      clear cb0
      refine start_ (n := 11) (S := fun w' => HasB W0 w' (blk g5 51 (exA e1 (.slice vA vn vc)).toArray)) (ds := []) #[false, false, false, false, false, false, false, false, false, false, false] (by kernel_rfl) rfl rfl ⟨_, 2, rfl, HS.drew⟩ (fun hHeld => ?_)
      replace HS := HS.drew
      generalize World.drew w_ = w at HS hHeld ⊢
      refine pure_ (i := 0) (N := some 21) (v := ?_) (a' := ?_) #[true, false, false, false, false, false, false, false, false, false, false] rfl rfl (by kernel_rfl) (fun _ _ _ h => h) (Or.inl ⟨by rfl, ?_⟩) ?_ ?_
      rotate_left
      · intro w'
        go_simp
        with_reducible rfl
      rotate_left
      · (try simp only [Act.put, List.setIfInBounds_toArray, List.set_cons_zero, List.set_cons_succ, i64_w, i32_w])
        rfl
      refine take_ (i := 1) (N := some 22) (v := ?_) (a' := ?_) #[true, true, false, false, false, false, false, false, false, false, false] rfl rfl (by kernel_rfl) (fun _ _ _ h => h) (Or.inl ⟨by rfl, ?_⟩) hHeld ?_ ?_
      rotate_left
      · rintro w' hS
        have cb := hS.cell
        clear hS
        go_simp
        with_reducible rfl
      rotate_left
      · (try simp only [Act.put, List.setIfInBounds_toArray, List.set_cons_zero, List.set_cons_succ, i64_w, i32_w])
        rfl
      refine pure_ (i := 2) (N := some 23) (v := ?_) (a' := ?_) #[true, true, true, false, false, false, false, false, false, false, false] rfl rfl (by kernel_rfl) (fun _ _ _ h => h) (Or.inl ⟨by rfl, ?_⟩) ?_ ?_
      rotate_left
      · intro w'
        go_simp
        with_reducible rfl
      rotate_left
      · (try simp only [Act.put, List.setIfInBounds_toArray, List.set_cons_zero, List.set_cons_succ, i64_w, i32_w])
        rfl
      refine pure_ (i := 5) (N := some 26) (v := ?_) (a' := ?_) #[true, true, true, false, false, true, false, false, false, false, false] rfl rfl (by kernel_rfl) (fun _ _ _ h => h) (Or.inl ⟨by rfl, ?_⟩) ?_ ?_
      rotate_left
      · intro w'
        go_simp
        with_reducible rfl
      rotate_left
      · (try simp only [Act.put, List.setIfInBounds_toArray, List.set_cons_zero, List.set_cons_succ, i64_w, i32_w])
        rfl
      refine one_ (i := 3) (N := some 24) #[true, true, true, true, false, true, false, false, false, false, false] rfl rfl (by kernel_rfl) (by decide) (fun K hK => ?_)
      refine goes_ Tryd.func73 (by kernel_rfl) rfl #[.pointer (some ⟨g, 0, none⟩)] (by rfl) rfl rfl (by (try simp only [List.map_toArray, List.map_cons, List.map_nil]); first | done | rfl) ?_
      refine (HWY.out _ _ (by repeat (first | exact HOLD.out | apply OldIn.cons)) HS).mono ?_
      rintro e_ w_ ⟨uA, un, uc, rfl, HS_⟩
      refine ⟨_, rfl, ?_⟩
      clear HS
      have HS := HS_
      clear HS_
      replace HS := rot3 HS
      refine hK.out _ _ ⟨_, 3, rfl, HS⟩ (fun hHeld => ?_)
      clear hK K
      refine norm_ (a' := ?_) ?_ ?_
      rotate_left
      · show Act.put _ _ _ = _
        (try simp only [Act.put, List.setIfInBounds_toArray, List.set_cons_zero, List.set_cons_succ, i64_w, i32_w])
        rfl
      refine two_ (i := 4) (j := 6) (Ni := some 25) (Nj := none) #[true, true, true, true, true, true, false, false, false, false, false] #[true, true, true, true, false, true, true, false, false, false, false] rfl rfl rfl rfl (by kernel_rfl) (by decide) (by decide) (fun K hK => ?_) (fun K hK => ?_)
      ·
        refine ev_litb_step HS (by rfl) (N := 25) rfl (cs := (exA y (.slice uA un uc)).toArray) (e := 51) (n := 1) ?hrun ?_
        case hrun => first | (go_simp; done) | (go_simp; rfl)
        clear HS
        intro g25 w HS
        replace HS := rot3 HS
        refine hK.out _ _ ⟨_, 4, rfl, HS⟩ (fun hHeld => ?_)
        clear hK K
        refine norm_ (a' := ?_) ?_ ?_
        rotate_left
        · show Act.put _ _ _ = _
          (try simp only [Act.put, List.setIfInBounds_toArray, List.set_cons_zero, List.set_cons_succ, i64_w, i32_w])
          rfl
        refine one_ (i := 6) (N := none) #[true, true, true, true, true, true, true, false, false, false, false] rfl rfl (by kernel_rfl) (by decide) (fun K hK => ?_)
        refine ev_storeN_step HS 7 rfl (by rfl) 0 42 (.tmp 26) (.const (.int .i64 2)) rfl rfl rfl (.int .i64 2) rfl [.int .i64 2] rfl (by kernel_rfl) (by simp) (by simp [Value.oneCell']) #[.int .i64 2, .int .i64 at_.f0, .int .i64 at_.f1, .string ⟨#[]⟩, .slice none 0 0, .slice none 0 0, .slice none 0 0] rfl ?_
        clear HS
        intro w HS
        refine hK.out _ _ ⟨_, 4, rfl, HS⟩ (fun hHeld => ?_)
        clear hK K
        refine pure_ (i := 7) (N := some 27) (v := ?_) (a' := ?_) #[true, true, true, true, true, true, true, true, false, false, false] rfl rfl (by kernel_rfl) (fun _ _ _ h => h) (Or.inl ⟨by rfl, ?_⟩) ?_ ?_
        rotate_left
        · intro w'
          go_simp
          with_reducible rfl
        rotate_left
        · (try simp only [Act.put, List.setIfInBounds_toArray, List.set_cons_zero, List.set_cons_succ, i64_w, i32_w])
          rfl
        refine one_ (i := 8) (N := none) #[true, true, true, true, true, true, true, true, true, false, false] rfl rfl (by kernel_rfl) (by decide) (fun K hK => ?_)
        refine ev_storeN_step HS 7 rfl (by rfl) 3 9 (.tmp 27) (.tmp 22) rfl rfl rfl (.string e1.f3) rfl [.string e1.f3] rfl (by kernel_rfl) (by simp) (by simp [Value.oneCell']) #[.int .i64 2, .int .i64 at_.f0, .int .i64 at_.f1, .string e1.f3, .slice none 0 0, .slice none 0 0, .slice none 0 0] rfl ?_
        clear HS
        intro w HS
        refine hK.out _ _ ⟨_, 4, rfl, HS⟩ (fun hHeld => ?_)
        clear hK K
        refine pure_ (i := 9) (N := some 28) (v := ?_) (a' := ?_) #[true, true, true, true, true, true, true, true, true, true, false] rfl rfl (by kernel_rfl) (fun _ _ _ h => h) (Or.inl ⟨by rfl, ?_⟩) ?_ ?_
        rotate_left
        · intro w'
          go_simp
          with_reducible rfl
        rotate_left
        · (try simp only [Act.put, List.setIfInBounds_toArray, List.set_cons_zero, List.set_cons_succ, i64_w, i32_w])
          rfl
        refine one_ (i := 10) (N := none) #[true, true, true, true, true, true, true, true, true, true, true] rfl rfl (by kernel_rfl) (by decide) (fun K hK => ?_)
        refine ev_storeN_step HS 7 rfl (by rfl) 4 43 (.tmp 28) (.tmp 25) rfl rfl rfl (.slice (some ⟨g25, 0, none⟩) 1 1) rfl [.slice (some ⟨g25, 0, none⟩) 1 1] rfl (by kernel_rfl) (by simp) (by simp [Value.oneCell']) #[.int .i64 2, .int .i64 at_.f0, .int .i64 at_.f1, .string e1.f3, .slice (some ⟨g25, 0, none⟩) 1 1, .slice none 0 0, .slice none 0 0] rfl ?_
        clear HS
        intro w HS
        refine hK.out _ _ ⟨_, 4, rfl, HS⟩ (fun hHeld => ?_)
        clear hK K
        refine done_ (by kernel_rfl) ?_
        clear hHeld
        go_wp2_with (first | ((with_reducible refine gate_dst (N := 57) rfl ?_); (with_reducible refine gate_load (ty := 45) (p := 3) rfl ?_); (try (refine gate_guard (by rfl) ?_; dsimp only)); go_must (refine ev_load HS 7 rfl rfl 45 (.tmp 3) rfl (N := 57) rfl rfl _ Tryd.underlying45 rfl (by kernel_rfl) ?_)) | ((with_reducible refine gate_store (t := 45) (p := 4) rfl ?_); go_must (refine ev_store HS 6 rfl rfl 45 (.tmp 4) (.tmp 57) rfl rfl rfl [.int .i64 2, .int .i64 at_.f0, .int .i64 at_.f1, .string e1.f3, .slice (some ⟨g25, 0, none⟩) 1 1, .slice none 0 0, .slice none 0 0] ?hx (by kernel_rfl) (by rfl) ?h1 ?_); (case hx => first | rfl | (go_simp; done)); (case h1 => simp [Value.oneCell']); clear HS; intro w HS))
        refine ret_row HS 6 rfl (p := 4) rfl rfl _ Tryd.underlying45 rfl (by kernel_rfl) rfl ?_
        replace HS := HS.erase 4
        replace HS := HS.erase 4
        replace HS := HS.erase 4
        replace HS := HS.erase 4
        replace HS := rot4 HS
        exact ⟨some ⟨g25, 0, none⟩, none, none, 1, 0, 0, 1, 0, 0, rfl, st_e ⟨2, at_, e1.f3, [y], [], []⟩ rfl rfl (row_one y HS)⟩
      ·
        refine ev_storeN_step HS 6 rfl (by rfl) 0 42 (.tmp 26) (.const (.int .i64 2)) rfl rfl rfl (.int .i64 2) rfl [.int .i64 2] rfl (by kernel_rfl) (by simp) (by simp [Value.oneCell']) #[.int .i64 2, .int .i64 at_.f0, .int .i64 at_.f1, .string ⟨#[]⟩, .slice none 0 0, .slice none 0 0, .slice none 0 0] rfl ?_
        clear HS
        intro w HS
        refine hK.out _ _ ⟨_, 3, rfl, HS⟩ (fun hHeld => ?_)
        clear hK K
        refine pure_ (i := 7) (N := some 27) (v := ?_) (a' := ?_) #[true, true, true, true, false, true, true, true, false, false, false] rfl rfl (by kernel_rfl) (fun _ _ _ h => h) (Or.inl ⟨by rfl, ?_⟩) ?_ ?_
        rotate_left
        · intro w'
          go_simp
          with_reducible rfl
        rotate_left
        · (try simp only [Act.put, List.setIfInBounds_toArray, List.set_cons_zero, List.set_cons_succ, i64_w, i32_w])
          rfl
        refine two_ (i := 4) (j := 8) (Ni := some 25) (Nj := none) #[true, true, true, true, true, true, true, true, false, false, false] #[true, true, true, true, false, true, true, true, true, false, false] rfl rfl rfl rfl (by kernel_rfl) (by decide) (by decide) (fun K hK => ?_) (fun K hK => ?_)
        ·
          refine ev_litb_step HS (by rfl) (N := 25) rfl (cs := (exA y (.slice uA un uc)).toArray) (e := 51) (n := 1) ?hrun ?_
          case hrun => first | (go_simp; done) | (go_simp; rfl)
          clear HS
          intro g25 w HS
          replace HS := rot3 HS
          refine hK.out _ _ ⟨_, 4, rfl, HS⟩ (fun hHeld => ?_)
          clear hK K
          refine norm_ (a' := ?_) ?_ ?_
          rotate_left
          · show Act.put _ _ _ = _
            (try simp only [Act.put, List.setIfInBounds_toArray, List.set_cons_zero, List.set_cons_succ, i64_w, i32_w])
            rfl
          refine one_ (i := 8) (N := none) #[true, true, true, true, true, true, true, true, true, false, false] rfl rfl (by kernel_rfl) (by decide) (fun K hK => ?_)
          refine ev_storeN_step HS 7 rfl (by rfl) 3 9 (.tmp 27) (.tmp 22) rfl rfl rfl (.string e1.f3) rfl [.string e1.f3] rfl (by kernel_rfl) (by simp) (by simp [Value.oneCell']) #[.int .i64 2, .int .i64 at_.f0, .int .i64 at_.f1, .string e1.f3, .slice none 0 0, .slice none 0 0, .slice none 0 0] rfl ?_
          clear HS
          intro w HS
          refine hK.out _ _ ⟨_, 4, rfl, HS⟩ (fun hHeld => ?_)
          clear hK K
          refine pure_ (i := 9) (N := some 28) (v := ?_) (a' := ?_) #[true, true, true, true, true, true, true, true, true, true, false] rfl rfl (by kernel_rfl) (fun _ _ _ h => h) (Or.inl ⟨by rfl, ?_⟩) ?_ ?_
          rotate_left
          · intro w'
            go_simp
            with_reducible rfl
          rotate_left
          · (try simp only [Act.put, List.setIfInBounds_toArray, List.set_cons_zero, List.set_cons_succ, i64_w, i32_w])
            rfl
          refine one_ (i := 10) (N := none) #[true, true, true, true, true, true, true, true, true, true, true] rfl rfl (by kernel_rfl) (by decide) (fun K hK => ?_)
          refine ev_storeN_step HS 7 rfl (by rfl) 4 43 (.tmp 28) (.tmp 25) rfl rfl rfl (.slice (some ⟨g25, 0, none⟩) 1 1) rfl [.slice (some ⟨g25, 0, none⟩) 1 1] rfl (by kernel_rfl) (by simp) (by simp [Value.oneCell']) #[.int .i64 2, .int .i64 at_.f0, .int .i64 at_.f1, .string e1.f3, .slice (some ⟨g25, 0, none⟩) 1 1, .slice none 0 0, .slice none 0 0] rfl ?_
          clear HS
          intro w HS
          refine hK.out _ _ ⟨_, 4, rfl, HS⟩ (fun hHeld => ?_)
          clear hK K
          refine done_ (by kernel_rfl) ?_
          clear hHeld
          go_wp2_with (first | ((with_reducible refine gate_dst (N := 57) rfl ?_); (with_reducible refine gate_load (ty := 45) (p := 3) rfl ?_); (try (refine gate_guard (by rfl) ?_; dsimp only)); go_must (refine ev_load HS 7 rfl rfl 45 (.tmp 3) rfl (N := 57) rfl rfl _ Tryd.underlying45 rfl (by kernel_rfl) ?_)) | ((with_reducible refine gate_store (t := 45) (p := 4) rfl ?_); go_must (refine ev_store HS 6 rfl rfl 45 (.tmp 4) (.tmp 57) rfl rfl rfl [.int .i64 2, .int .i64 at_.f0, .int .i64 at_.f1, .string e1.f3, .slice (some ⟨g25, 0, none⟩) 1 1, .slice none 0 0, .slice none 0 0] ?hx (by kernel_rfl) (by rfl) ?h1 ?_); (case hx => first | rfl | (go_simp; done)); (case h1 => simp [Value.oneCell']); clear HS; intro w HS))
          refine ret_row HS 6 rfl (p := 4) rfl rfl _ Tryd.underlying45 rfl (by kernel_rfl) rfl ?_
          replace HS := HS.erase 4
          replace HS := HS.erase 4
          replace HS := HS.erase 4
          replace HS := HS.erase 4
          replace HS := rot4 HS
          exact ⟨some ⟨g25, 0, none⟩, none, none, 1, 0, 0, 1, 0, 0, rfl, st_e ⟨2, at_, e1.f3, [y], [], []⟩ rfl rfl (row_one y HS)⟩
        ·
          refine ev_storeN_step HS 6 rfl (by rfl) 3 9 (.tmp 27) (.tmp 22) rfl rfl rfl (.string e1.f3) rfl [.string e1.f3] rfl (by kernel_rfl) (by simp) (by simp [Value.oneCell']) #[.int .i64 2, .int .i64 at_.f0, .int .i64 at_.f1, .string e1.f3, .slice none 0 0, .slice none 0 0, .slice none 0 0] rfl ?_
          clear HS
          intro w HS
          refine hK.out _ _ ⟨_, 3, rfl, HS⟩ (fun hHeld => ?_)
          clear hK K
          refine one_ (i := 4) (N := some 25) #[true, true, true, true, true, true, true, true, true, false, false] rfl rfl (by kernel_rfl) (by decide) (fun K hK => ?_)
          refine ev_litb_step HS (by rfl) (N := 25) rfl (cs := (exA y (.slice uA un uc)).toArray) (e := 51) (n := 1) ?hrun ?_
          case hrun => first | (go_simp; done) | (go_simp; rfl)
          clear HS
          intro g25 w HS
          replace HS := rot3 HS
          refine hK.out _ _ ⟨_, 4, rfl, HS⟩ (fun hHeld => ?_)
          clear hK K
          refine norm_ (a' := ?_) ?_ ?_
          rotate_left
          · show Act.put _ _ _ = _
            (try simp only [Act.put, List.setIfInBounds_toArray, List.set_cons_zero, List.set_cons_succ, i64_w, i32_w])
            rfl
          refine pure_ (i := 9) (N := some 28) (v := ?_) (a' := ?_) #[true, true, true, true, true, true, true, true, true, true, false] rfl rfl (by kernel_rfl) (fun _ _ _ h => h) (Or.inl ⟨by rfl, ?_⟩) ?_ ?_
          rotate_left
          · intro w'
            go_simp
            with_reducible rfl
          rotate_left
          · (try simp only [Act.put, List.setIfInBounds_toArray, List.set_cons_zero, List.set_cons_succ, i64_w, i32_w])
            rfl
          refine one_ (i := 10) (N := none) #[true, true, true, true, true, true, true, true, true, true, true] rfl rfl (by kernel_rfl) (by decide) (fun K hK => ?_)
          refine ev_storeN_step HS 7 rfl (by rfl) 4 43 (.tmp 28) (.tmp 25) rfl rfl rfl (.slice (some ⟨g25, 0, none⟩) 1 1) rfl [.slice (some ⟨g25, 0, none⟩) 1 1] rfl (by kernel_rfl) (by simp) (by simp [Value.oneCell']) #[.int .i64 2, .int .i64 at_.f0, .int .i64 at_.f1, .string e1.f3, .slice (some ⟨g25, 0, none⟩) 1 1, .slice none 0 0, .slice none 0 0] rfl ?_
          clear HS
          intro w HS
          refine hK.out _ _ ⟨_, 4, rfl, HS⟩ (fun hHeld => ?_)
          clear hK K
          refine done_ (by kernel_rfl) ?_
          clear hHeld
          go_wp2_with (first | ((with_reducible refine gate_dst (N := 57) rfl ?_); (with_reducible refine gate_load (ty := 45) (p := 3) rfl ?_); (try (refine gate_guard (by rfl) ?_; dsimp only)); go_must (refine ev_load HS 7 rfl rfl 45 (.tmp 3) rfl (N := 57) rfl rfl _ Tryd.underlying45 rfl (by kernel_rfl) ?_)) | ((with_reducible refine gate_store (t := 45) (p := 4) rfl ?_); go_must (refine ev_store HS 6 rfl rfl 45 (.tmp 4) (.tmp 57) rfl rfl rfl [.int .i64 2, .int .i64 at_.f0, .int .i64 at_.f1, .string e1.f3, .slice (some ⟨g25, 0, none⟩) 1 1, .slice none 0 0, .slice none 0 0] ?hx (by kernel_rfl) (by rfl) ?h1 ?_); (case hx => first | rfl | (go_simp; done)); (case h1 => simp [Value.oneCell']); clear HS; intro w HS))
          refine ret_row HS 6 rfl (p := 4) rfl rfl _ Tryd.underlying45 rfl (by kernel_rfl) rfl ?_
          replace HS := HS.erase 4
          replace HS := HS.erase 4
          replace HS := HS.erase 4
          replace HS := HS.erase 4
          replace HS := rot4 HS
          exact ⟨some ⟨g25, 0, none⟩, none, none, 1, 0, 0, 1, 0, 0, rfl, st_e ⟨2, at_, e1.f3, [y], [], []⟩ rfl rfl (row_one y HS)⟩
  | false =>
  rw [k3] at hp
  simp only [Bool.false_and, Bool.false_eq_true, if_false] at hp
  cases k4 : (e1.f0 == 4) with
  | true =>
    have k5 : (e1.f0 == 5) = false := by have := eq_of_beq k4; rw [this]; rfl
    rw [k4] at hp
    simp only [Bool.true_and] at hp
    cases ht : (takeP s1 (bs [61])).1 with
    | false =>
      rw [if_neg (by rw [ht]; decide), k5] at hp
      simp only [Bool.false_and, Bool.false_eq_true, if_false] at hp
      obtain ⟨rfl, rfl⟩ := pair_inj hp
      have HFL := Aside0.mk (fun (w : World) (L : List Chunk) (HS : Sat W0 w (psB g A0 c0 all.length s1 :: tkR A0 c0 all :: L)) => fail_callsP h1 HS 12)
      have HTK := Aside0.mk (fun (w : World) (L : List Chunk) (HS : Sat W0 w (psB g A0 c0 all.length s1 :: tkR A0 c0 all :: L)) => show Calls Tryd.prog 23 #[.pointer (some ⟨g, 0, none⟩), .string ⟨#[61]⟩] w fun r w' => r = .returned (.bool false) ∧ Sat W0 w' (psB g A0 c0 all.length s1 :: tkR A0 c0 all :: L) from take_no h1 ht HS)
      clear ht
      clear hp h1 hix hF hW
      go_enter Tryd.func75, Tryd.ntmps75
      go_upto_region 1 with (first | ((with_reducible refine gate_dst (N := 3) rfl ?_); go_must (refine ev_box HS rfl (N := 3) rfl (cs := #[.int .i64 0, .int .i64 at_.f0, .int .i64 at_.f1, .string ⟨#[]⟩, .slice none 0 0, .slice none 0 0, .slice none 0 0]) (t := 45) ?hrun ?_); (case hrun => first | (go_simp; done) | (go_simp; rfl)); clear HS; intro g3 w HS; replace HS := rot3 HS) | ((with_reducible refine gate_dst (N := 4) rfl ?_); go_must (refine ev_box HS rfl (N := 4) rfl (cs := #[.int .i64 0, .int .i64 0, .int .i64 0, .string ⟨#[]⟩, .slice none 0 0, .slice none 0 0, .slice none 0 0]) (t := 45) ?hrun ?_); (case hrun => first | (go_simp; done) | (go_simp; rfl)); clear HS; intro g4 w HS; replace HS := rot3 HS))
      go_upto_region 3 with (first | ((try (refine gate_guard (by rfl) ?_; dsimp only)); go_at_call 73; refine (HWH.out _ _ (by repeat (first | exact HOLD.out | apply OldIn.cons)) HS).mono ?_; rintro e_ w_ ⟨vA, vn, vc, rfl, HS_⟩; clear HS; have HS := HS_; clear HS_; replace HS := rot3 HS) | ((with_reducible refine gate_dst (N := 5) rfl ?_); go_must (refine ev_box HS rfl (N := 5) rfl (cs := #[.int .i64 0, .int .i64 0, .int .i64 0, .int .i64 0, .string ⟨#[]⟩, .int .i64 0, .slice none 0 0]) (t := 51) ?hrun ?_); (case hrun => first | (go_simp; done) | (go_simp; rfl)); clear HS; intro g5 w HS; replace HS := rot3 HS) | ((with_reducible refine gate_store (t := 51) (p := 5) rfl ?_); go_must (refine ev_store HS 2 rfl rfl 51 (.tmp 5) (.tmp 7) rfl rfl rfl (exA e1 (.slice vA vn vc)) ?hx (by kernel_rfl) (by rfl) ?h1 ?_); (case hx => first | rfl | (go_simp; done)); (case h1 => simp [Value.oneCell']); clear HS; intro w HS))
      go_upto_region 4 with (first | ((try (refine gate_guard (by rfl) ?_; dsimp only)); go_at_call 21; (first | (with_reducible refine (HBD.out _ _ HS).mono ?_)); rintro e_ w_ ⟨rfl, HS_⟩; clear HS; have HS := HS_; clear HS_))
      have cb0 := HS.cell 2 rfl
      go_wp2_with (first | ((try (refine gate_guard (by rfl) ?_; dsimp only)); go_at_call 26; (first | (with_reducible refine (HFL.out _ _ HS).mono ?_)); rintro e_ w_ ⟨rfl, HS_⟩; clear HS; have HS := HS_; clear HS_) | ((try (refine gate_guard (by rfl) ?_; dsimp only)); go_at_call 23; (first | (with_reducible refine (HTK.out _ _ HS).mono ?_)); rintro e_ w_ ⟨rfl, HS_⟩; clear HS; have HS := HS_; clear HS_; clear cb0; have cb0 := HS.cell 2 rfl) | ((with_reducible refine gate_dst (N := 57) rfl ?_); (with_reducible refine gate_load (ty := 45) (p := 3) rfl ?_); (try (refine gate_guard (by rfl) ?_; dsimp only)); go_must (refine ev_load HS 5 rfl rfl 45 (.tmp 3) rfl (N := 57) rfl rfl _ Tryd.underlying45 rfl (by kernel_rfl) ?_)) | ((with_reducible refine gate_store (t := 45) (p := 4) rfl ?_); go_must (refine ev_store HS 4 rfl rfl 45 (.tmp 4) (.tmp 57) rfl rfl rfl [.int .i64 0, .int .i64 at_.f0, .int .i64 at_.f1, .string ⟨#[]⟩, .slice none 0 0, .slice none 0 0, .slice none 0 0] ?hx (by kernel_rfl) (by rfl) ?h1 ?_); (case hx => first | rfl | (go_simp; done)); (case h1 => simp [Value.oneCell']); clear HS; intro w HS))
      refine ret_row HS 4 rfl (p := 4) rfl rfl _ Tryd.underlying45 rfl (by kernel_rfl) rfl ?_
      replace HS := HS.erase 2
      replace HS := HS.erase 2
      replace HS := HS.erase 2
      replace HS := HS.erase 2
      exact ⟨none, none, none, 0, 0, 0, 0, 0, 0, rfl, st_0 ⟨0, at_, bs [], [], [], []⟩ rfl rfl rfl HS⟩
    | true =>
      rw [if_pos ht] at hp
      obtain ⟨s2, hs2⟩ : ∃ x, x = (takeP s1 (bs [61])).2 := ⟨_, rfl⟩
      have HTK := Aside0.mk (fun (w : World) (L : List Chunk) (HS : Sat W0 w (psB g A0 c0 all.length s1 :: tkR A0 c0 all :: L)) => show Calls Tryd.prog 23 #[.pointer (some ⟨g, 0, none⟩), .string ⟨#[61]⟩] w fun r w' => r = .returned (.bool true) ∧ Sat W0 w' (psB g A0 c0 all.length (takeP s1 (bs [61])).2 :: tkR A0 c0 all :: L) from take_at h1 ht HS)
      have h2 := h1.take (bs [61])
      rw [← hs2] at HTK h2 hp
      clear hs2 ht
      cases hy : F.whole s2 with
      | none => rw [hy] at hp; cases hp
      | some r2 =>
      obtain ⟨y, s3⟩ := r2
      rw [hy] at hp
      obtain ⟨rfl, rfl⟩ := pair_inj hp
      have HWY := Aside0.mk (fun (w : World) (M : List Chunk) (hM : OldIn W0 M) (HS : Sat W0 w (psB g A0 c0 all.length s2 :: tkR A0 c0 all :: M)) => ex_d hW W0 w M g A0 c0 s2 y s3 HGL.out hM h2 hy HS)
      obtain ⟨k0, hk0⟩ := hix (eq_of_beq k4)
      rw [show e1.f5.getD 0 z51 = k0 from by rw [hk0]; rfl]
      have HK0 := Aside0.mk hk0
      clear hp h1 h2 hy hix hF hW hk0
      go_enter Tryd.func75, Tryd.ntmps75
      go_upto_region 1 with (first | ((with_reducible refine gate_dst (N := 3) rfl ?_); go_must (refine ev_box HS rfl (N := 3) rfl (cs := #[.int .i64 0, .int .i64 at_.f0, .int .i64 at_.f1, .string ⟨#[]⟩, .slice none 0 0, .slice none 0 0, .slice none 0 0]) (t := 45) ?hrun ?_); (case hrun => first | (go_simp; done) | (go_simp; rfl)); clear HS; intro g3 w HS; replace HS := rot3 HS) | ((with_reducible refine gate_dst (N := 4) rfl ?_); go_must (refine ev_box HS rfl (N := 4) rfl (cs := #[.int .i64 0, .int .i64 0, .int .i64 0, .string ⟨#[]⟩, .slice none 0 0, .slice none 0 0, .slice none 0 0]) (t := 45) ?hrun ?_); (case hrun => first | (go_simp; done) | (go_simp; rfl)); clear HS; intro g4 w HS; replace HS := rot3 HS))
      go_upto_region 3 with (first | ((try (refine gate_guard (by rfl) ?_; dsimp only)); go_at_call 73; refine (HWH.out _ _ (by repeat (first | exact HOLD.out | apply OldIn.cons)) HS).mono ?_; rintro e_ w_ ⟨vA, vn, vc, rfl, HS_⟩; clear HS; have HS := HS_; clear HS_; replace HS := rot3 HS) | ((with_reducible refine gate_dst (N := 5) rfl ?_); go_must (refine ev_box HS rfl (N := 5) rfl (cs := #[.int .i64 0, .int .i64 0, .int .i64 0, .int .i64 0, .string ⟨#[]⟩, .int .i64 0, .slice none 0 0]) (t := 51) ?hrun ?_); (case hrun => first | (go_simp; done) | (go_simp; rfl)); clear HS; intro g5 w HS; replace HS := rot3 HS) | ((with_reducible refine gate_store (t := 51) (p := 5) rfl ?_); go_must (refine ev_store HS 2 rfl rfl 51 (.tmp 5) (.tmp 7) rfl rfl rfl (exA e1 (.slice vA vn vc)) ?hx (by kernel_rfl) (by rfl) ?h1 ?_); (case hx => first | rfl | (go_simp; done)); (case h1 => simp [Value.oneCell']); clear HS; intro w HS))
      go_upto_region 4 with (first | ((try (refine gate_guard (by rfl) ?_; dsimp only)); go_at_call 21; (first | (with_reducible refine (HBD.out _ _ HS).mono ?_)); rintro e_ w_ ⟨rfl, HS_⟩; clear HS; have HS := HS_; clear HS_))
      have cb0 := HS.cell 2 rfl
      go_upto_region 7 with (first | ((try (refine gate_guard (by rfl) ?_; dsimp only)); go_at_call 23; (first | (with_reducible refine (HTK.out _ _ HS).mono ?_)); rintro e_ w_ ⟨rfl, HS_⟩; clear HS; have HS := HS_; clear HS_; clear cb0; have cb0 := HS.cell 2 rfl))
      clear cb0
      replace HS := row_of_ex e1 (HS.front 3 rfl)
      rw [HK0.out] at HS
      obtain ⟨gk, cap, arr, kA, kn, kc, he5, HAR, HS_⟩ := ex_open1 HS
      clear HS
      have HS := HS_
      clear HS_
      obtain ⟨rfl, rfl, rfl⟩ : vA = some ⟨gk, 0, none⟩ ∧ vn = 1 ∧ vc = cap := by injection he5 with a b c; exact ⟨a, b, c⟩
      replace HAR := Aside0.mk HAR
      clear he5
      replace HS := rot4 HS
      refine start_ (n := 15) (S := fun w' => HasB2 W0 w' (blk g5 51 (exA e1 (.slice (some ⟨gk, 0, none⟩) 1 vc)).toArray) (blk gk 51 arr)) (ds := []) #[false, false, false, false, false, false, false, false, false, false, false, false, false, false, false] (by kernel_rfl) rfl rfl ⟨_, 4, 2, rfl, rfl, HS.drew⟩ (fun hHeld => ?_)
      replace HS := HS.drew
      generalize World.drew w_ = w at HS hHeld ⊢
      refine pure_ (i := 0) (N := some 37) (v := ?_) (a' := ?_) #[true, false, false, false, false, false, false, false, false, false, false, false, false, false, false] rfl rfl (by kernel_rfl) (fun _ _ _ h => h) (Or.inl ⟨by rfl, ?_⟩) ?_ ?_
      rotate_left
      · intro w'
        go_simp
        with_reducible rfl
      rotate_left
      · (try simp only [Act.put, List.setIfInBounds_toArray, List.set_cons_zero, List.set_cons_succ, i64_w, i32_w])
        rfl
      refine take_ (i := 1) (N := some 38) (v := ?_) (a' := ?_) #[true, true, false, false, false, false, false, false, false, false, false, false, false, false, false] rfl rfl (by kernel_rfl) (fun _ _ _ h => h) (Or.inl ⟨by rfl, ?_⟩) hHeld ?_ ?_
      rotate_left
      · rintro w' hS
        have cb := hS.one.cell
        clear hS
        go_simp
        with_reducible rfl
      rotate_left
      · (try simp only [Act.put, List.setIfInBounds_toArray, List.set_cons_zero, List.set_cons_succ, i64_w, i32_w])
        rfl
      refine pure_ (i := 2) (N := some 39) (v := ?_) (a' := ?_) #[true, true, true, false, false, false, false, false, false, false, false, false, false, false, false] rfl rfl (by kernel_rfl) (fun _ _ _ h => h) (Or.inl ⟨by rfl, ?_⟩) ?_ ?_
      rotate_left
      · intro w'
        go_simp
        with_reducible rfl
      rotate_left
      · (try simp only [Act.put, List.setIfInBounds_toArray, List.set_cons_zero, List.set_cons_succ, i64_w, i32_w])
        rfl
      refine take_ (i := 3) (N := some 40) (v := ?_) (a' := ?_) #[true, true, true, true, false, false, false, false, false, false, false, false, false, false, false] rfl rfl (by kernel_rfl) (fun _ _ _ h => h) (Or.inl ⟨by rfl, ?_⟩) hHeld ?_ ?_
      rotate_left
      · rintro w' hS
        have cb := hS.one.cell
        clear hS
        go_simp
        with_reducible rfl
      rotate_left
      · (try simp only [Act.put, List.setIfInBounds_toArray, List.set_cons_zero, List.set_cons_succ, i64_w, i32_w])
        rfl
      refine pure_ (i := 4) (N := some 41) (v := ?_) (a' := ?_) #[true, true, true, true, true, false, false, false, false, false, false, false, false, false, false] rfl rfl (by kernel_rfl) (fun _ _ _ h => h) (Or.inl ⟨by rfl, ?_⟩) ?_ ?_
      rotate_left
      · intro w'
        go_simp
        with_reducible rfl
      rotate_left
      · (try simp only [Act.put, List.setIfInBounds_toArray, List.set_cons_zero, List.set_cons_succ, i64_w, i32_w])
        rfl
      refine take_ (i := 5) (N := some 42) (v := ?_) (a' := ?_) #[true, true, true, true, true, true, false, false, false, false, false, false, false, false, false] rfl rfl (by kernel_rfl) (fun _ _ _ h => h) (Or.inl ⟨by rfl, ?_⟩) hHeld ?_ ?_
      rotate_left
      · rintro w' hS
        refine part_hb hS.two 51 (.tmp 41) ?_ ?_ _ Tryd.underlying51 rfl (exA k0 (.slice kA kn kc)) (by kernel_rfl) HAR.out <;> rfl
      rotate_left
      · (try simp only [Act.put, List.setIfInBounds_toArray, List.set_cons_zero, List.set_cons_succ, i64_w, i32_w])
        rfl
      refine pure_ (i := 6) (N := some 43) (v := ?_) (a' := ?_) #[true, true, true, true, true, true, true, false, false, false, false, false, false, false, false] rfl rfl (by kernel_rfl) (fun _ _ _ h => h) (Or.inl ⟨by rfl, ?_⟩) ?_ ?_
      rotate_left
      · intro w'
        go_simp
        with_reducible rfl
      rotate_left
      · (try simp only [Act.put, List.setIfInBounds_toArray, List.set_cons_zero, List.set_cons_succ, i64_w, i32_w])
        rfl
      refine pure_ (i := 9) (N := some 46) (v := ?_) (a' := ?_) #[true, true, true, true, true, true, true, false, false, true, false, false, false, false, false] rfl rfl (by kernel_rfl) (fun _ _ _ h => h) (Or.inl ⟨by rfl, ?_⟩) ?_ ?_
      rotate_left
      · intro w'
        go_simp
        with_reducible rfl
      rotate_left
      · (try simp only [Act.put, List.setIfInBounds_toArray, List.set_cons_zero, List.set_cons_succ, i64_w, i32_w])
        rfl
      refine one_ (i := 7) (N := some 44) #[true, true, true, true, true, true, true, true, false, true, false, false, false, false, false] rfl rfl (by kernel_rfl) (by decide) (fun K hK => ?_)
      refine goes_ Tryd.func73 (by kernel_rfl) rfl #[.pointer (some ⟨g, 0, none⟩)] (by rfl) rfl rfl (by (try simp only [List.map_toArray, List.map_cons, List.map_nil]); first | done | rfl) ?_
      refine (HWY.out _ _ (by repeat (first | exact HOLD.out | apply OldIn.cons)) HS).mono ?_
      rintro e_ w_ ⟨uA, un, uc, rfl, HS_⟩
      refine ⟨_, rfl, ?_⟩
      clear HS
      have HS := HS_
      clear HS_
      replace HS := rot3 HS
      refine hK.out _ _ ⟨_, 5, 3, rfl, rfl, HS⟩ (fun hHeld => ?_)
      clear hK K
      refine norm_ (a' := ?_) ?_ ?_
      rotate_left
      · show Act.put _ _ _ = _
        (try simp only [Act.put, List.setIfInBounds_toArray, List.set_cons_zero, List.set_cons_succ, i64_w, i32_w])
        rfl
      refine two_ (i := 8) (j := 10) (Ni := some 45) (Nj := none) #[true, true, true, true, true, true, true, true, true, true, false, false, false, false, false] #[true, true, true, true, true, true, true, true, false, true, true, false, false, false, false] rfl rfl rfl rfl (by kernel_rfl) (by decide) (by decide) (fun K hK => ?_) (fun K hK => ?_)
      ·
        refine ev_litb_step HS (by rfl) (N := 45) rfl (cs := (exA k0 (.slice kA kn kc) ++ exA y (.slice uA un uc)).toArray) (e := 51) (n := 2) ?hrun ?_
        case hrun => first | (go_simp; done) | (go_simp; rfl)
        clear HS
        intro g45 w HS
        replace HS := rot3 HS
        refine hK.out _ _ ⟨_, 6, 4, rfl, rfl, HS⟩ (fun hHeld => ?_)
        clear hK K
        refine norm_ (a' := ?_) ?_ ?_
        rotate_left
        · show Act.put _ _ _ = _
          (try simp only [Act.put, List.setIfInBounds_toArray, List.set_cons_zero, List.set_cons_succ, i64_w, i32_w])
          rfl
        refine one_ (i := 10) (N := none) #[true, true, true, true, true, true, true, true, true, true, true, false, false, false, false] rfl rfl (by kernel_rfl) (by decide) (fun K hK => ?_)
        refine ev_storeN_step HS 8 rfl (by rfl) 0 42 (.tmp 46) (.const (.int .i64 3)) rfl rfl rfl (.int .i64 3) rfl [.int .i64 3] rfl (by kernel_rfl) (by simp) (by simp [Value.oneCell']) #[.int .i64 3, .int .i64 at_.f0, .int .i64 at_.f1, .string ⟨#[]⟩, .slice none 0 0, .slice none 0 0, .slice none 0 0] rfl ?_
        clear HS
        intro w HS
        refine hK.out _ _ ⟨_, 6, 4, rfl, rfl, HS⟩ (fun hHeld => ?_)
        clear hK K
        refine pure_ (i := 11) (N := some 47) (v := ?_) (a' := ?_) #[true, true, true, true, true, true, true, true, true, true, true, true, false, false, false] rfl rfl (by kernel_rfl) (fun _ _ _ h => h) (Or.inl ⟨by rfl, ?_⟩) ?_ ?_
        rotate_left
        · intro w'
          go_simp
          with_reducible rfl
        rotate_left
        · (try simp only [Act.put, List.setIfInBounds_toArray, List.set_cons_zero, List.set_cons_succ, i64_w, i32_w])
          rfl
        refine one_ (i := 12) (N := none) #[true, true, true, true, true, true, true, true, true, true, true, true, true, false, false] rfl rfl (by kernel_rfl) (by decide) (fun K hK => ?_)
        refine ev_storeN_step HS 8 rfl (by rfl) 3 9 (.tmp 47) (.tmp 38) rfl rfl rfl (.string e1.f3) rfl [.string e1.f3] rfl (by kernel_rfl) (by simp) (by simp [Value.oneCell']) #[.int .i64 3, .int .i64 at_.f0, .int .i64 at_.f1, .string e1.f3, .slice none 0 0, .slice none 0 0, .slice none 0 0] rfl ?_
        clear HS
        intro w HS
        refine hK.out _ _ ⟨_, 6, 4, rfl, rfl, HS⟩ (fun hHeld => ?_)
        clear hK K
        refine pure_ (i := 13) (N := some 48) (v := ?_) (a' := ?_) #[true, true, true, true, true, true, true, true, true, true, true, true, true, true, false] rfl rfl (by kernel_rfl) (fun _ _ _ h => h) (Or.inl ⟨by rfl, ?_⟩) ?_ ?_
        rotate_left
        · intro w'
          go_simp
          with_reducible rfl
        rotate_left
        · (try simp only [Act.put, List.setIfInBounds_toArray, List.set_cons_zero, List.set_cons_succ, i64_w, i32_w])
          rfl
        refine one_ (i := 14) (N := none) #[true, true, true, true, true, true, true, true, true, true, true, true, true, true, true] rfl rfl (by kernel_rfl) (by decide) (fun K hK => ?_)
        refine ev_storeN_step HS 8 rfl (by rfl) 4 43 (.tmp 48) (.tmp 45) rfl rfl rfl (.slice (some ⟨g45, 0, none⟩) 2 2) rfl [.slice (some ⟨g45, 0, none⟩) 2 2] rfl (by kernel_rfl) (by simp) (by simp [Value.oneCell']) #[.int .i64 3, .int .i64 at_.f0, .int .i64 at_.f1, .string e1.f3, .slice (some ⟨g45, 0, none⟩) 2 2, .slice none 0 0, .slice none 0 0] rfl ?_
        clear HS
        intro w HS
        refine hK.out _ _ ⟨_, 6, 4, rfl, rfl, HS⟩ (fun hHeld => ?_)
        clear hK K
        refine done_ (by kernel_rfl) ?_
        clear hHeld
        go_wp2_with (first | ((with_reducible refine gate_dst (N := 57) rfl ?_); (with_reducible refine gate_load (ty := 45) (p := 3) rfl ?_); (try (refine gate_guard (by rfl) ?_; dsimp only)); go_must (refine ev_load HS 8 rfl rfl 45 (.tmp 3) rfl (N := 57) rfl rfl _ Tryd.underlying45 rfl (by kernel_rfl) ?_)) | ((with_reducible refine gate_store (t := 45) (p := 4) rfl ?_); go_must (refine ev_store HS 7 rfl rfl 45 (.tmp 4) (.tmp 57) rfl rfl rfl [.int .i64 3, .int .i64 at_.f0, .int .i64 at_.f1, .string e1.f3, .slice (some ⟨g45, 0, none⟩) 2 2, .slice none 0 0, .slice none 0 0] ?hx (by kernel_rfl) (by rfl) ?h1 ?_); (case hx => first | rfl | (go_simp; done)); (case h1 => simp [Value.oneCell']); clear HS; intro w HS))
        refine ret_row HS 7 rfl (p := 4) rfl rfl _ Tryd.underlying45 rfl (by kernel_rfl) rfl ?_
        replace HS := HS.erase 4
        replace HS := HS.erase 5
        replace HS := HS.erase 5
        replace HS := HS.erase 5
        replace HS := HS.front 1 rfl
        replace HS := HS.front 1 rfl
        replace HS := HS.front 3 rfl
        replace HS := HS.front 4 rfl
        replace HS := HS.front 4 rfl
        exact ⟨some ⟨g45, 0, none⟩, none, none, 2, 0, 0, 2, 0, 0, rfl, st_e ⟨3, at_, e1.f3, [k0, y], [], []⟩ rfl rfl (row_two k0 y HS)⟩
      ·
        refine ev_storeN_step HS 7 rfl (by rfl) 0 42 (.tmp 46) (.const (.int .i64 3)) rfl rfl rfl (.int .i64 3) rfl [.int .i64 3] rfl (by kernel_rfl) (by simp) (by simp [Value.oneCell']) #[.int .i64 3, .int .i64 at_.f0, .int .i64 at_.f1, .string ⟨#[]⟩, .slice none 0 0, .slice none 0 0, .slice none 0 0] rfl ?_
        clear HS
        intro w HS
        refine hK.out _ _ ⟨_, 5, 3, rfl, rfl, HS⟩ (fun hHeld => ?_)
        clear hK K
        refine pure_ (i := 11) (N := some 47) (v := ?_) (a' := ?_) #[true, true, true, true, true, true, true, true, false, true, true, true, false, false, false] rfl rfl (by kernel_rfl) (fun _ _ _ h => h) (Or.inl ⟨by rfl, ?_⟩) ?_ ?_
        rotate_left
        · intro w'
          go_simp
          with_reducible rfl
        rotate_left
        · (try simp only [Act.put, List.setIfInBounds_toArray, List.set_cons_zero, List.set_cons_succ, i64_w, i32_w])
          rfl
        refine two_ (i := 8) (j := 12) (Ni := some 45) (Nj := none) #[true, true, true, true, true, true, true, true, true, true, true, true, false, false, false] #[true, true, true, true, true, true, true, true, false, true, true, true, true, false, false] rfl rfl rfl rfl (by kernel_rfl) (by decide) (by decide) (fun K hK => ?_) (fun K hK => ?_)
        ·
          refine ev_litb_step HS (by rfl) (N := 45) rfl (cs := (exA k0 (.slice kA kn kc) ++ exA y (.slice uA un uc)).toArray) (e := 51) (n := 2) ?hrun ?_
          case hrun => first | (go_simp; done) | (go_simp; rfl)
          clear HS
          intro g45 w HS
          replace HS := rot3 HS
          refine hK.out _ _ ⟨_, 6, 4, rfl, rfl, HS⟩ (fun hHeld => ?_)
          clear hK K
          refine norm_ (a' := ?_) ?_ ?_
          rotate_left
          · show Act.put _ _ _ = _
            (try simp only [Act.put, List.setIfInBounds_toArray, List.set_cons_zero, List.set_cons_succ, i64_w, i32_w])
            rfl
          refine one_ (i := 12) (N := none) #[true, true, true, true, true, true, true, true, true, true, true, true, true, false, false] rfl rfl (by kernel_rfl) (by decide) (fun K hK => ?_)
          refine ev_storeN_step HS 8 rfl (by rfl) 3 9 (.tmp 47) (.tmp 38) rfl rfl rfl (.string e1.f3) rfl [.string e1.f3] rfl (by kernel_rfl) (by simp) (by simp [Value.oneCell']) #[.int .i64 3, .int .i64 at_.f0, .int .i64 at_.f1, .string e1.f3, .slice none 0 0, .slice none 0 0, .slice none 0 0] rfl ?_
          clear HS
          intro w HS
          refine hK.out _ _ ⟨_, 6, 4, rfl, rfl, HS⟩ (fun hHeld => ?_)
          clear hK K
          refine pure_ (i := 13) (N := some 48) (v := ?_) (a' := ?_) #[true, true, true, true, true, true, true, true, true, true, true, true, true, true, false] rfl rfl (by kernel_rfl) (fun _ _ _ h => h) (Or.inl ⟨by rfl, ?_⟩) ?_ ?_
          rotate_left
          · intro w'
            go_simp
            with_reducible rfl
          rotate_left
          · (try simp only [Act.put, List.setIfInBounds_toArray, List.set_cons_zero, List.set_cons_succ, i64_w, i32_w])
            rfl
          refine one_ (i := 14) (N := none) #[true, true, true, true, true, true, true, true, true, true, true, true, true, true, true] rfl rfl (by kernel_rfl) (by decide) (fun K hK => ?_)
          refine ev_storeN_step HS 8 rfl (by rfl) 4 43 (.tmp 48) (.tmp 45) rfl rfl rfl (.slice (some ⟨g45, 0, none⟩) 2 2) rfl [.slice (some ⟨g45, 0, none⟩) 2 2] rfl (by kernel_rfl) (by simp) (by simp [Value.oneCell']) #[.int .i64 3, .int .i64 at_.f0, .int .i64 at_.f1, .string e1.f3, .slice (some ⟨g45, 0, none⟩) 2 2, .slice none 0 0, .slice none 0 0] rfl ?_
          clear HS
          intro w HS
          refine hK.out _ _ ⟨_, 6, 4, rfl, rfl, HS⟩ (fun hHeld => ?_)
          clear hK K
          refine done_ (by kernel_rfl) ?_
          clear hHeld
          go_wp2_with (first | ((with_reducible refine gate_dst (N := 57) rfl ?_); (with_reducible refine gate_load (ty := 45) (p := 3) rfl ?_); (try (refine gate_guard (by rfl) ?_; dsimp only)); go_must (refine ev_load HS 8 rfl rfl 45 (.tmp 3) rfl (N := 57) rfl rfl _ Tryd.underlying45 rfl (by kernel_rfl) ?_)) | ((with_reducible refine gate_store (t := 45) (p := 4) rfl ?_); go_must (refine ev_store HS 7 rfl rfl 45 (.tmp 4) (.tmp 57) rfl rfl rfl [.int .i64 3, .int .i64 at_.f0, .int .i64 at_.f1, .string e1.f3, .slice (some ⟨g45, 0, none⟩) 2 2, .slice none 0 0, .slice none 0 0] ?hx (by kernel_rfl) (by rfl) ?h1 ?_); (case hx => first | rfl | (go_simp; done)); (case h1 => simp [Value.oneCell']); clear HS; intro w HS))
          refine ret_row HS 7 rfl (p := 4) rfl rfl _ Tryd.underlying45 rfl (by kernel_rfl) rfl ?_
          replace HS := HS.erase 4
          replace HS := HS.erase 5
          replace HS := HS.erase 5
          replace HS := HS.erase 5
          replace HS := HS.front 1 rfl
          replace HS := HS.front 1 rfl
          replace HS := HS.front 3 rfl
          replace HS := HS.front 4 rfl
          replace HS := HS.front 4 rfl
          exact ⟨some ⟨g45, 0, none⟩, none, none, 2, 0, 0, 2, 0, 0, rfl, st_e ⟨3, at_, e1.f3, [k0, y], [], []⟩ rfl rfl (row_two k0 y HS)⟩
        ·
          refine ev_storeN_step HS 7 rfl (by rfl) 3 9 (.tmp 47) (.tmp 38) rfl rfl rfl (.string e1.f3) rfl [.string e1.f3] rfl (by kernel_rfl) (by simp) (by simp [Value.oneCell']) #[.int .i64 3, .int .i64 at_.f0, .int .i64 at_.f1, .string e1.f3, .slice none 0 0, .slice none 0 0, .slice none 0 0] rfl ?_
          clear HS
          intro w HS
          refine hK.out _ _ ⟨_, 5, 3, rfl, rfl, HS⟩ (fun hHeld => ?_)
          clear hK K
          refine one_ (i := 8) (N := some 45) #[true, true, true, true, true, true, true, true, true, true, true, true, true, false, false] rfl rfl (by kernel_rfl) (by decide) (fun K hK => ?_)
          refine ev_litb_step HS (by rfl) (N := 45) rfl (cs := (exA k0 (.slice kA kn kc) ++ exA y (.slice uA un uc)).toArray) (e := 51) (n := 2) ?hrun ?_
          case hrun => first | (go_simp; done) | (go_simp; rfl)
          clear HS
          intro g45 w HS
          replace HS := rot3 HS
          refine hK.out _ _ ⟨_, 6, 4, rfl, rfl, HS⟩ (fun hHeld => ?_)
          clear hK K
          refine norm_ (a' := ?_) ?_ ?_
          rotate_left
          · show Act.put _ _ _ = _
            (try simp only [Act.put, List.setIfInBounds_toArray, List.set_cons_zero, List.set_cons_succ, i64_w, i32_w])
            rfl
          refine pure_ (i := 13) (N := some 48) (v := ?_) (a' := ?_) #[true, true, true, true, true, true, true, true, true, true, true, true, true, true, false] rfl rfl (by kernel_rfl) (fun _ _ _ h => h) (Or.inl ⟨by rfl, ?_⟩) ?_ ?_
          rotate_left
          · intro w'
            go_simp
            with_reducible rfl
          rotate_left
          · (try simp only [Act.put, List.setIfInBounds_toArray, List.set_cons_zero, List.set_cons_succ, i64_w, i32_w])
            rfl
          refine one_ (i := 14) (N := none) #[true, true, true, true, true, true, true, true, true, true, true, true, true, true, true] rfl rfl (by kernel_rfl) (by decide) (fun K hK => ?_)
          refine ev_storeN_step HS 8 rfl (by rfl) 4 43 (.tmp 48) (.tmp 45) rfl rfl rfl (.slice (some ⟨g45, 0, none⟩) 2 2) rfl [.slice (some ⟨g45, 0, none⟩) 2 2] rfl (by kernel_rfl) (by simp) (by simp [Value.oneCell']) #[.int .i64 3, .int .i64 at_.f0, .int .i64 at_.f1, .string e1.f3, .slice (some ⟨g45, 0, none⟩) 2 2, .slice none 0 0, .slice none 0 0] rfl ?_
          clear HS
          intro w HS
          refine hK.out _ _ ⟨_, 6, 4, rfl, rfl, HS⟩ (fun hHeld => ?_)
          clear hK K
          refine done_ (by kernel_rfl) ?_
          clear hHeld
          go_wp2_with (first | ((with_reducible refine gate_dst (N := 57) rfl ?_); (with_reducible refine gate_load (ty := 45) (p := 3) rfl ?_); (try (refine gate_guard (by rfl) ?_; dsimp only)); go_must (refine ev_load HS 8 rfl rfl 45 (.tmp 3) rfl (N := 57) rfl rfl _ Tryd.underlying45 rfl (by kernel_rfl) ?_)) | ((with_reducible refine gate_store (t := 45) (p := 4) rfl ?_); go_must (refine ev_store HS 7 rfl rfl 45 (.tmp 4) (.tmp 57) rfl rfl rfl [.int .i64 3, .int .i64 at_.f0, .int .i64 at_.f1, .string e1.f3, .slice (some ⟨g45, 0, none⟩) 2 2, .slice none 0 0, .slice none 0 0] ?hx (by kernel_rfl) (by rfl) ?h1 ?_); (case hx => first | rfl | (go_simp; done)); (case h1 => simp [Value.oneCell']); clear HS; intro w HS))
          refine ret_row HS 7 rfl (p := 4) rfl rfl _ Tryd.underlying45 rfl (by kernel_rfl) rfl ?_
          replace HS := HS.erase 4
          replace HS := HS.erase 5
          replace HS := HS.erase 5
          replace HS := HS.erase 5
          replace HS := HS.front 1 rfl
          replace HS := HS.front 1 rfl
          replace HS := HS.front 3 rfl
          replace HS := HS.front 4 rfl
          replace HS := HS.front 4 rfl
          exact ⟨some ⟨g45, 0, none⟩, none, none, 2, 0, 0, 2, 0, 0, rfl, st_e ⟨3, at_, e1.f3, [k0, y], [], []⟩ rfl rfl (row_two k0 y HS)⟩
  | false =>
  rw [k4] at hp
  simp only [Bool.false_and, Bool.false_eq_true, if_false] at hp
  cases k5 : (e1.f0 == 5) with
  | true =>
    rw [k5] at hp
    simp only [if_true] at hp
    obtain ⟨rfl, rfl⟩ := pair_inj hp
    clear hp h1 hix hF hW
    go_enter Tryd.func75, Tryd.ntmps75
    go_upto_region 1 with (first | ((with_reducible refine gate_dst (N := 3) rfl ?_); go_must (refine ev_box HS rfl (N := 3) rfl (cs := #[.int .i64 0, .int .i64 at_.f0, .int .i64 at_.f1, .string ⟨#[]⟩, .slice none 0 0, .slice none 0 0, .slice none 0 0]) (t := 45) ?hrun ?_); (case hrun => first | (go_simp; done) | (go_simp; rfl)); clear HS; intro g3 w HS; replace HS := rot3 HS) | ((with_reducible refine gate_dst (N := 4) rfl ?_); go_must (refine ev_box HS rfl (N := 4) rfl (cs := #[.int .i64 0, .int .i64 0, .int .i64 0, .string ⟨#[]⟩, .slice none 0 0, .slice none 0 0, .slice none 0 0]) (t := 45) ?hrun ?_); (case hrun => first | (go_simp; done) | (go_simp; rfl)); clear HS; intro g4 w HS; replace HS := rot3 HS))
    go_upto_region 3 with (first | ((try (refine gate_guard (by rfl) ?_; dsimp only)); go_at_call 73; refine (HWH.out _ _ (by repeat (first | exact HOLD.out | apply OldIn.cons)) HS).mono ?_; rintro e_ w_ ⟨vA, vn, vc, rfl, HS_⟩; clear HS; have HS := HS_; clear HS_; replace HS := rot3 HS) | ((with_reducible refine gate_dst (N := 5) rfl ?_); go_must (refine ev_box HS rfl (N := 5) rfl (cs := #[.int .i64 0, .int .i64 0, .int .i64 0, .int .i64 0, .string ⟨#[]⟩, .int .i64 0, .slice none 0 0]) (t := 51) ?hrun ?_); (case hrun => first | (go_simp; done) | (go_simp; rfl)); clear HS; intro g5 w HS; replace HS := rot3 HS) | ((with_reducible refine gate_store (t := 51) (p := 5) rfl ?_); go_must (refine ev_store HS 2 rfl rfl 51 (.tmp 5) (.tmp 7) rfl rfl rfl (exA e1 (.slice vA vn vc)) ?hx (by kernel_rfl) (by rfl) ?h1 ?_); (case hx => first | rfl | (go_simp; done)); (case h1 => simp [Value.oneCell']); clear HS; intro w HS))
    go_upto_region 4 with (first | ((try (refine gate_guard (by rfl) ?_; dsimp only)); go_at_call 21; (first | (with_reducible refine (HBD.out _ _ HS).mono ?_)); rintro e_ w_ ⟨rfl, HS_⟩; clear HS; have HS := HS_; clear HS_))
    have cb0 := HS.cell 2 rfl
    go_upto_region 9 with (fail)
    clear cb0
    refine start_ (n := 6) (S := fun w' => HasB W0 w' (blk g5 51 (exA e1 (.slice vA vn vc)).toArray)) (ds := []) #[false, false, false, false, false, false] (by kernel_rfl) rfl rfl ⟨_, 2, rfl, HS.drew⟩ (fun hHeld => ?_)
    replace HS := HS.drew
    generalize World.drew w_ = w at HS hHeld ⊢
    refine take_ (i := 0) (N := some 53) (v := ?_) (a' := ?_) #[true, false, false, false, false, false] rfl rfl (by kernel_rfl) (fun _ _ _ h => h) (Or.inl ⟨by rfl, ?_⟩) hHeld ?_ ?_
    rotate_left
    · rintro w' hS
      refine whole_hb hS 51 (.tmp 5) ?_ ?_ _ Tryd.underlying51 rfl (by kernel_rfl) <;> rfl
    rotate_left
    · (try simp only [Act.put, List.setIfInBounds_toArray, List.set_cons_zero, List.set_cons_succ, i64_w, i32_w])
      rfl
    refine pure_ (i := 2) (N := some 55) (v := ?_) (a' := ?_) #[true, false, true, false, false, false] rfl rfl (by kernel_rfl) (fun _ _ _ h => h) (Or.inl ⟨by rfl, ?_⟩) ?_ ?_
    rotate_left
    · intro w'
      go_simp
      with_reducible rfl
    rotate_left
    · (try simp only [Act.put, List.setIfInBounds_toArray, List.set_cons_zero, List.set_cons_succ, i64_w, i32_w])
      rfl
    refine two_ (i := 1) (j := 3) (Ni := some 54) (Nj := none) #[true, true, true, false, false, false] #[true, false, true, true, false, false] rfl rfl rfl rfl (by kernel_rfl) (by decide) (by decide) (fun K hK => ?_) (fun K hK => ?_)
    ·
      refine ev_litb_step HS (by rfl) (N := 54) rfl (cs := (exA e1 (.slice vA vn vc)).toArray) (e := 51) (n := 1) ?hrun ?_
      case hrun => first | (go_simp; done) | (go_simp; rfl)
      clear HS
      intro g54 w HS
      replace HS := rot3 HS
      refine hK.out _ _ ⟨_, 3, rfl, HS⟩ (fun hHeld => ?_)
      clear hK K
      refine norm_ (a' := ?_) ?_ ?_
      rotate_left
      · show Act.put _ _ _ = _
        (try simp only [Act.put, List.setIfInBounds_toArray, List.set_cons_zero, List.set_cons_succ, i64_w, i32_w])
        rfl
      refine one_ (i := 3) (N := none) #[true, true, true, true, false, false] rfl rfl (by kernel_rfl) (by decide) (fun K hK => ?_)
      refine ev_storeN_step HS 6 rfl (by rfl) 0 42 (.tmp 55) (.const (.int .i64 7)) rfl rfl rfl (.int .i64 7) rfl [.int .i64 7] rfl (by kernel_rfl) (by simp) (by simp [Value.oneCell']) #[.int .i64 7, .int .i64 at_.f0, .int .i64 at_.f1, .string ⟨#[]⟩, .slice none 0 0, .slice none 0 0, .slice none 0 0] rfl ?_
      clear HS
      intro w HS
      refine hK.out _ _ ⟨_, 3, rfl, HS⟩ (fun hHeld => ?_)
      clear hK K
      refine pure_ (i := 4) (N := some 56) (v := ?_) (a' := ?_) #[true, true, true, true, true, false] rfl rfl (by kernel_rfl) (fun _ _ _ h => h) (Or.inl ⟨by rfl, ?_⟩) ?_ ?_
      rotate_left
      · intro w'
        go_simp
        with_reducible rfl
      rotate_left
      · (try simp only [Act.put, List.setIfInBounds_toArray, List.set_cons_zero, List.set_cons_succ, i64_w, i32_w])
        rfl
      refine one_ (i := 5) (N := none) #[true, true, true, true, true, true] rfl rfl (by kernel_rfl) (by decide) (fun K hK => ?_)
      refine ev_storeN_step HS 6 rfl (by rfl) 4 43 (.tmp 56) (.tmp 54) rfl rfl rfl (.slice (some ⟨g54, 0, none⟩) 1 1) rfl [.slice (some ⟨g54, 0, none⟩) 1 1] rfl (by kernel_rfl) (by simp) (by simp [Value.oneCell']) #[.int .i64 7, .int .i64 at_.f0, .int .i64 at_.f1, .string ⟨#[]⟩, .slice (some ⟨g54, 0, none⟩) 1 1, .slice none 0 0, .slice none 0 0] rfl ?_
      clear HS
      intro w HS
      refine hK.out _ _ ⟨_, 3, rfl, HS⟩ (fun hHeld => ?_)
      clear hK K
      refine done_ (by kernel_rfl) ?_
      clear hHeld
      go_wp2_with (first | ((with_reducible refine gate_dst (N := 57) rfl ?_); (with_reducible refine gate_load (ty := 45) (p := 3) rfl ?_); (try (refine gate_guard (by rfl) ?_; dsimp only)); go_must (refine ev_load HS 6 rfl rfl 45 (.tmp 3) rfl (N := 57) rfl rfl _ Tryd.underlying45 rfl (by kernel_rfl) ?_)) | ((with_reducible refine gate_store (t := 45) (p := 4) rfl ?_); go_must (refine ev_store HS 5 rfl rfl 45 (.tmp 4) (.tmp 57) rfl rfl rfl [.int .i64 7, .int .i64 at_.f0, .int .i64 at_.f1, .string ⟨#[]⟩, .slice (some ⟨g54, 0, none⟩) 1 1, .slice none 0 0, .slice none 0 0] ?hx (by kernel_rfl) (by rfl) ?h1 ?_); (case hx => first | rfl | (go_simp; done)); (case h1 => simp [Value.oneCell']); clear HS; intro w HS))
      refine ret_row HS 5 rfl (p := 4) rfl rfl _ Tryd.underlying45 rfl (by kernel_rfl) rfl ?_
      replace HS := HS.erase 3
      replace HS := HS.erase 4
      replace HS := HS.erase 4
      exact ⟨some ⟨g54, 0, none⟩, none, none, 1, 0, 0, 1, 0, 0, rfl, st_e ⟨7, at_, bs [], [e1], [], []⟩ rfl rfl (row_one e1 (rot4 HS))⟩
    ·
      refine ev_storeN_step HS 5 rfl (by rfl) 0 42 (.tmp 55) (.const (.int .i64 7)) rfl rfl rfl (.int .i64 7) rfl [.int .i64 7] rfl (by kernel_rfl) (by simp) (by simp [Value.oneCell']) #[.int .i64 7, .int .i64 at_.f0, .int .i64 at_.f1, .string ⟨#[]⟩, .slice none 0 0, .slice none 0 0, .slice none 0 0] rfl ?_
      clear HS
      intro w HS
      refine hK.out _ _ ⟨_, 2, rfl, HS⟩ (fun hHeld => ?_)
      clear hK K
      refine one_ (i := 1) (N := some 54) #[true, true, true, true, false, false] rfl rfl (by kernel_rfl) (by decide) (fun K hK => ?_)
      refine ev_litb_step HS (by rfl) (N := 54) rfl (cs := (exA e1 (.slice vA vn vc)).toArray) (e := 51) (n := 1) ?hrun ?_
      case hrun => first | (go_simp; done) | (go_simp; rfl)
      clear HS
      intro g54 w HS
      replace HS := rot3 HS
      refine hK.out _ _ ⟨_, 3, rfl, HS⟩ (fun hHeld => ?_)
      clear hK K
      refine norm_ (a' := ?_) ?_ ?_
      rotate_left
      · show Act.put _ _ _ = _
        (try simp only [Act.put, List.setIfInBounds_toArray, List.set_cons_zero, List.set_cons_succ, i64_w, i32_w])
        rfl
      refine pure_ (i := 4) (N := some 56) (v := ?_) (a' := ?_) #[true, true, true, true, true, false] rfl rfl (by kernel_rfl) (fun _ _ _ h => h) (Or.inl ⟨by rfl, ?_⟩) ?_ ?_
      rotate_left
      · intro w'
        go_simp
        with_reducible rfl
      rotate_left
      · (try simp only [Act.put, List.setIfInBounds_toArray, List.set_cons_zero, List.set_cons_succ, i64_w, i32_w])
        rfl
      refine one_ (i := 5) (N := none) #[true, true, true, true, true, true] rfl rfl (by kernel_rfl) (by decide) (fun K hK => ?_)
      refine ev_storeN_step HS 6 rfl (by rfl) 4 43 (.tmp 56) (.tmp 54) rfl rfl rfl (.slice (some ⟨g54, 0, none⟩) 1 1) rfl [.slice (some ⟨g54, 0, none⟩) 1 1] rfl (by kernel_rfl) (by simp) (by simp [Value.oneCell']) #[.int .i64 7, .int .i64 at_.f0, .int .i64 at_.f1, .string ⟨#[]⟩, .slice (some ⟨g54, 0, none⟩) 1 1, .slice none 0 0, .slice none 0 0] rfl ?_
      clear HS
      intro w HS
      refine hK.out _ _ ⟨_, 3, rfl, HS⟩ (fun hHeld => ?_)
      clear hK K
      refine done_ (by kernel_rfl) ?_
      clear hHeld
      go_wp2_with (first | ((with_reducible refine gate_dst (N := 57) rfl ?_); (with_reducible refine gate_load (ty := 45) (p := 3) rfl ?_); (try (refine gate_guard (by rfl) ?_; dsimp only)); go_must (refine ev_load HS 6 rfl rfl 45 (.tmp 3) rfl (N := 57) rfl rfl _ Tryd.underlying45 rfl (by kernel_rfl) ?_)) | ((with_reducible refine gate_store (t := 45) (p := 4) rfl ?_); go_must (refine ev_store HS 5 rfl rfl 45 (.tmp 4) (.tmp 57) rfl rfl rfl [.int .i64 7, .int .i64 at_.f0, .int .i64 at_.f1, .string ⟨#[]⟩, .slice (some ⟨g54, 0, none⟩) 1 1, .slice none 0 0, .slice none 0 0] ?hx (by kernel_rfl) (by rfl) ?h1 ?_); (case hx => first | rfl | (go_simp; done)); (case h1 => simp [Value.oneCell']); clear HS; intro w HS))
      refine ret_row HS 5 rfl (p := 4) rfl rfl _ Tryd.underlying45 rfl (by kernel_rfl) rfl ?_
      replace HS := HS.erase 3
      replace HS := HS.erase 4
      replace HS := HS.erase 4
      exact ⟨some ⟨g54, 0, none⟩, none, none, 1, 0, 0, 1, 0, 0, rfl, st_e ⟨7, at_, bs [], [e1], [], []⟩ rfl rfl (row_one e1 (rot4 HS))⟩
  | false =>
    rw [k5] at hp
    simp only [Bool.false_eq_true, if_false] at hp
    obtain ⟨rfl, rfl⟩ := pair_inj hp
    have HFL := Aside0.mk (fun (w : World) (L : List Chunk) (HS : Sat W0 w (psB g A0 c0 all.length s1 :: tkR A0 c0 all :: L)) => fail_callsP h1 HS 12)
    clear hp h1 hix hF hW
    go_enter Tryd.func75, Tryd.ntmps75
    go_upto_region 1 with (first | ((with_reducible refine gate_dst (N := 3) rfl ?_); go_must (refine ev_box HS rfl (N := 3) rfl (cs := #[.int .i64 0, .int .i64 at_.f0, .int .i64 at_.f1, .string ⟨#[]⟩, .slice none 0 0, .slice none 0 0, .slice none 0 0]) (t := 45) ?hrun ?_); (case hrun => first | (go_simp; done) | (go_simp; rfl)); clear HS; intro g3 w HS; replace HS := rot3 HS) | ((with_reducible refine gate_dst (N := 4) rfl ?_); go_must (refine ev_box HS rfl (N := 4) rfl (cs := #[.int .i64 0, .int .i64 0, .int .i64 0, .string ⟨#[]⟩, .slice none 0 0, .slice none 0 0, .slice none 0 0]) (t := 45) ?hrun ?_); (case hrun => first | (go_simp; done) | (go_simp; rfl)); clear HS; intro g4 w HS; replace HS := rot3 HS))
    go_upto_region 3 with (first | ((try (refine gate_guard (by rfl) ?_; dsimp only)); go_at_call 73; refine (HWH.out _ _ (by repeat (first | exact HOLD.out | apply OldIn.cons)) HS).mono ?_; rintro e_ w_ ⟨vA, vn, vc, rfl, HS_⟩; clear HS; have HS := HS_; clear HS_; replace HS := rot3 HS) | ((with_reducible refine gate_dst (N := 5) rfl ?_); go_must (refine ev_box HS rfl (N := 5) rfl (cs := #[.int .i64 0, .int .i64 0, .int .i64 0, .int .i64 0, .string ⟨#[]⟩, .int .i64 0, .slice none 0 0]) (t := 51) ?hrun ?_); (case hrun => first | (go_simp; done) | (go_simp; rfl)); clear HS; intro g5 w HS; replace HS := rot3 HS) | ((with_reducible refine gate_store (t := 51) (p := 5) rfl ?_); go_must (refine ev_store HS 2 rfl rfl 51 (.tmp 5) (.tmp 7) rfl rfl rfl (exA e1 (.slice vA vn vc)) ?hx (by kernel_rfl) (by rfl) ?h1 ?_); (case hx => first | rfl | (go_simp; done)); (case h1 => simp [Value.oneCell']); clear HS; intro w HS))
    go_upto_region 4 with (first | ((try (refine gate_guard (by rfl) ?_; dsimp only)); go_at_call 21; (first | (with_reducible refine (HBD.out _ _ HS).mono ?_)); rintro e_ w_ ⟨rfl, HS_⟩; clear HS; have HS := HS_; clear HS_))
    have cb0 := HS.cell 2 rfl
    go_wp2_with (first | ((try (refine gate_guard (by rfl) ?_; dsimp only)); go_at_call 26; (first | (with_reducible refine (HFL.out _ _ HS).mono ?_)); rintro e_ w_ ⟨rfl, HS_⟩; clear HS; have HS := HS_; clear HS_) | ((with_reducible refine gate_dst (N := 57) rfl ?_); (with_reducible refine gate_load (ty := 45) (p := 3) rfl ?_); (try (refine gate_guard (by rfl) ?_; dsimp only)); go_must (refine ev_load HS 5 rfl rfl 45 (.tmp 3) rfl (N := 57) rfl rfl _ Tryd.underlying45 rfl (by kernel_rfl) ?_)) | ((with_reducible refine gate_store (t := 45) (p := 4) rfl ?_); go_must (refine ev_store HS 4 rfl rfl 45 (.tmp 4) (.tmp 57) rfl rfl rfl [.int .i64 0, .int .i64 at_.f0, .int .i64 at_.f1, .string ⟨#[]⟩, .slice none 0 0, .slice none 0 0, .slice none 0 0] ?hx (by kernel_rfl) (by rfl) ?h1 ?_); (case hx => first | rfl | (go_simp; done)); (case h1 => simp [Value.oneCell']); clear HS; intro w HS))
    refine ret_row HS 4 rfl (p := 4) rfl rfl _ Tryd.underlying45 rfl (by kernel_rfl) rfl ?_
    replace HS := HS.erase 2
    replace HS := HS.erase 2
    replace HS := HS.erase 2
    replace HS := HS.erase 2
    exact ⟨none, none, none, 0, 0, 0, 0, 0, 0, rfl, st_0 ⟨0, at_, bs [], [], [], []⟩ rfl rfl rfl HS⟩
end Go.Proofs.YtenkganofobioaaDoor.B
