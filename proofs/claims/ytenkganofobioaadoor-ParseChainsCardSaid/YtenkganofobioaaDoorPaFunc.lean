/- Parsing: function. -/
import Derived.Test.YtenkganofobioaaDoorPaGlobal
namespace Go.Proofs.YtenkganofobioaaDoor.B
open Go.RowKit Go.Proofs.YtenkganofobioaaDoor.Mine Go.Proofs.YtenkganofobioaaDoor.Sep Go.Proofs.YtenkganofobioaaDoorW.PrintWords Go.Proofs.YtenkganofobioaaDoorW.PrintLast Go.Proofs.YtenkganofobioaaDoorW.PrintMore
set_option linter.unusedVariables false
set_option linter.unusedSimpArgs false
attribute [local go_sem] Instr.field asAgg
abbrev fuA (x : FU) (v1 v2 : Value) : List Value := [.string x.f0, v1, v2, .int .i64 x.f3.f0, .int .i64 x.f3.f1]
abbrev fuV (x : FU) (v1 v2 : Value) : Chunk := val k41 x (fuA x v1 v2)
theorem fu_of_rows {W0 w : World} {L : List Chunk} (x : FU) {v1 v2 : Value} (HS : Sat W0 w (row Kd.string 9 v1 x.f1 :: row k45 45 v2 x.f2 :: L)) : Sat W0 w (fuV x v1 v2 :: L) :=
  HS.join.turn (by
    rintro s ⟨s1, s2, h1, h2, u1, u2, dj⟩
    exact k41_mkM w 0 s x (Kd.R_mono h1 u1) (Kd.R_mono h2 u2))
theorem infoStr : (Tryd.prog.info? 9).map (fun i => (i.zero, i.size, i.bytes)) = some (some (.string ⟨#[]⟩), 1, 16) := by kernel_rfl
/-- append(v, ys...), ys an own row that goes over, in a drawn region. -/
theorem ev_append_own_step {P : Program} {ops : Array Oper} {o : Oper} {a : Act} {Q : Exit → Act → World → Prop} {Kc : Act → World → Prop} {α : Type} {W0 w : World} {L : List Chunk} (d : Kd α) (s x : Operand) (t e : TypeId) (z : Value) (bytes : Nat) {v : Value} {xs ys : List α} {A : Option Addr} {m c : Nat} (HS : Sat W0 w (row d e v xs :: row d e (.slice A m c) ys :: L))
    (hw : Region.wanted o (yielded ops a.tmps) = true) {N : Tmp} (hd : o.dst = some N) (ho : o.op = .call { callee := .builtin .append, args := #[s, x], argTypes := #[t, t] }) (hs : a.eval s = v) (hx : a.eval x = .slice A m c)
    (ht : P.underlying t = some (.slice e)) (hinfo : (P.info? e).map (fun i => (i.zero, i.size, i.bytes)) = some (some z, d.sz, bytes)) (hz : z.cells.size = d.sz) (hs0 : 0 < d.sz) (hb0 : 0 < bytes) (hl : (xs.length + m) * bytes ≤ 140737488355328)
    (h : ∀ v1 w1, Sat W0 w1 (row d e v1 (xs ++ ys) :: L) → Kc (a.put (some N) v1) w1) : if Region.wanted o (yielded ops a.tmps) = true then Oper.wp P o a w Kc Q else Kc (a.put (some N) undef) w := by
  obtain ⟨S, ⟨s1, s2, h1, h2, u1, u2, dj⟩, hlt, hput⟩ := HS.join.open 0 rfl
  obtain ⟨A', c', he, hle, hr⟩ := OwnRow.reads h2.2
  injection he with e1 e2 e3
  subst e1 e2 e3
  have key := Kd.R_append_rows_step (P := P) (ops := ops) (o := o) (a := a) (Q := Q) (Kc := Kc) d (Rr := d.M w 0 (fun k => s2 k ∧ some k ≠ (Value.slice A ys.length c).ownBlock)) (w0 := w) 0 hw s x t e z bytes ho ht hinfo hz hs0 hb0 v xs ys A ys.length c (fun k => S k ∨ w.heap.size ≤ k) (fun k => s2 k ∧ some k ≠ (Value.slice A ys.length c).ownBlock) hs hx (Kd.R_mono h1 (fun k hk => .inl (u1 k hk))) hr (fun _ _ h => h) (fun k hk => ⟨.inl (u2 k hk.1), fun e => dj k (h1.1 k e.symm) hk.1⟩) (fun k hk => .inr hk) (Below.refl _ _) (Nat.zero_le _) hl
    (fun v1 w1 hR hb hg hat => by rw [hd]; exact h v1 w1 (hput w1 _ ⟨hg.os, hg.tape, hg.output, hg.size, fun k hk hs => hg.block k hk (fun e => hs (u1 k (h1.1 k e.symm)))⟩ hR))
  rw [hd] at key
  exact key
theorem names_len : ∀ (k : Nat) (l : List ByteArray) (s : PS) (l' : List ByteArray) (s' : PS), namesP k l s = some (l', s') → l'.length < l.length + k
  | 0, l, s, l', s', hc => by rw [namesP] at hc; cases hc
  | k + 1, l, s, l', s', hc => by
    rw [namesP] at hc
    split at hc
    · have := names_len k _ _ _ _ hc
      rw [List.length_append, List.length_singleton] at this
      omega
    · obtain ⟨rfl, rfl⟩ := pair_inj hc; omega
/-- A block whose k-th cell is known. -/
def HasG (W0 w : World) (g t k : Nat) (v : Value) : Prop := ∃ (L : List Chunk) (i : Nat) (cs : Array Value), L[i]? = some (blk g t cs) ∧ Sat W0 w L ∧ cs[k]? = some v
theorem HasG.cell {W0 w : World} {g t k : Nat} {v : Value} (h : HasG W0 w g t k v) : w.cell? ⟨g, k, none⟩ = some v := by
  obtain ⟨L, i, cs, hi, HS, hv⟩ := h
  rw [blk_cell (HS.blk i hi) k, hv]
/-- A function that answers functions. -/
def FuD (all : List TK) (p : PS → Option (FU × PS)) : Prop :=
  ∀ (W0 w : World) (L : List Chunk) (g : Nat) (A0 : Addr) (c0 : Nat) (s : PS) (e : FU) (s' : PS), GL W0 → OldIn W0 L → POk all s → p s = some (e, s') → Sat W0 w (psB g A0 c0 all.length s :: tkR A0 c0 all :: L) →
    Calls Tryd.prog 25 #[.pointer (some ⟨g, 0, none⟩)] w fun r w' => ∃ (A B : Option Addr) (a b a' b' : Nat), r = .returned (.agg (fuA e (.slice A a a') (.slice B b b')).toArray) ∧ Sat W0 w' (fuV e (.slice A a a') (.slice B b b') :: psB g A0 c0 all.length s' :: tkR A0 c0 all :: L)
set_option maxRecDepth 100000 in
set_option maxHeartbeats 8000000 in
theorem function_walk {all : List TK} {F : Fns} (hF : FKeep all F) (hB : BlD all 47 [] F.block) : FuD all (functionP F) := by
  intro W0 w L g A0 c0 s e s' hG ho h hp HS
  have HOLD := Aside0.mk ho
  have HGL := Aside0.mk hG
  clear hG ho
  unfold functionP at hp
  simp only at hp
  have HNW := Aside0.mk (fun (w : World) (L : List Chunk) (HS : Sat W0 w (psB g A0 c0 all.length s :: tkR A0 c0 all :: L)) => show Calls Tryd.prog 22 #[.pointer (some ⟨g, 0, none⟩)] w _ from now_calls h HS)
  try unfold tkA at HNW
  obtain ⟨t, ht⟩ : ∃ t, t = nowP s := ⟨_, rfl⟩
  rw [← ht] at HNW hp
  clear ht
  have HNM := Aside0.mk (fun (w : World) (L : List Chunk) (HS : Sat W0 w (psB g A0 c0 all.length s :: tkR A0 c0 all :: L)) => name_callsP h HS)
  have h1 := h.name
  obtain ⟨nm, hnm⟩ : ∃ x, x = (nameP s).1 := ⟨_, rfl⟩
  obtain ⟨s1, hs1⟩ : ∃ x, x = (nameP s).2 := ⟨_, rfl⟩
  rw [← hnm, ← hs1] at hp HNM
  rw [← hs1] at h1
  clear hs1 hnm h
  have HW1 := Aside0.mk (fun (w : World) (L : List Chunk) (HS : Sat W0 w (psB g A0 c0 all.length s1 :: tkR A0 c0 all :: L)) => show Calls Tryd.prog 46 #[.pointer (some ⟨g, 0, none⟩), .string ⟨#[40]⟩] w fun r w' => r = .returned (.tuple #[]) ∧ Sat W0 w' (psB g A0 c0 all.length (wantP s1 (bs [40])) :: tkR A0 c0 all :: L) from want_callsP h1 HS (bs [40]))
  have h2 := h1.want (bs [40])
  obtain ⟨s2, hs_⟩ : ∃ x, x = wantP s1 (bs [40]) := ⟨_, rfl⟩
  rw [← hs_] at hp HW1 h2
  clear hs_ h1
  cases hl : namesP (s2.ts.length + 2) [] s2 with
  | none => rw [hl] at hp; cases hp
  | some r_ =>
  obtain ⟨l1, s3⟩ := r_
  rw [hl] at hp
  simp only at hp
  have h3 := (names_keeps _ _ _ _ _ h2 hl).1
  have HW2 := Aside0.mk (fun (w : World) (L : List Chunk) (HS : Sat W0 w (psB g A0 c0 all.length s3 :: tkR A0 c0 all :: L)) => show Calls Tryd.prog 46 #[.pointer (some ⟨g, 0, none⟩), .string ⟨#[41]⟩] w fun r w' => r = .returned (.tuple #[]) ∧ Sat W0 w' (psB g A0 c0 all.length (wantP s3 (bs [41])) :: tkR A0 c0 all :: L) from want_callsP h3 HS (bs [41]))
  have h4 := h3.want (bs [41])
  obtain ⟨s4, hs_⟩ : ∃ x, x = wantP s3 (bs [41]) := ⟨_, rfl⟩
  rw [← hs_] at hp HW2 h4
  clear hs_ h3
  cases hb : F.block s4 with
  | none => rw [hb] at hp; cases hp
  | some r_ =>
  obtain ⟨b1, s5⟩ := r_
  rw [hb] at hp
  simp only at hp
  obtain ⟨rfl, rfl⟩ := pair_inj hp
  have HBL := Aside0.mk (fun (w : World) (M : List Chunk) (hM : OldIn W0 M) (HS : Sat W0 w (psB g A0 c0 all.length s4 :: tkR A0 c0 all :: M)) => hB W0 w M g A0 c0 s4 b1 s5 HGL.out hM h4 hb HS)
  have HLL := Aside0.mk hl
  have HPO := Aside0.mk h2
  have HLN := Aside0.mk (show s2.ts.length ≤ 65537 from by have := h2.len.2; have := h2.few; omega)
  clear hp hl hb h2 h4 hF hB
  go_enter Tryd.func25, Tryd.ntmps25
  go_upto_region 1 with (first | ((with_reducible refine gate_dst (N := 2) rfl ?_); go_must (refine ev_box HS rfl (N := 2) rfl (cs := #[.string ⟨#[]⟩, .slice none 0 0, .slice none 0 0, .int .i64 0, .int .i64 0]) (t := 41) ?hrun ?_); (case hrun => first | (go_simp; done) | (go_simp; rfl)); clear HS; intro g2 w HS; replace HS := rot3 HS))
  go_upto_region 2 with (first | ((try (refine gate_guard (by rfl) ?_; dsimp only)); go_at_call 22; (first | (with_reducible refine (HNW.out _ _ HS).mono ?_)); rintro e_ w_ ⟨rfl, HS_⟩; clear HS; have HS := HS_; clear HS_) | ((try (refine gate_guard (by rfl) ?_; dsimp only)); go_at_call 45; (first | (with_reducible refine (HNM.out _ _ HS).mono ?_)); rintro e_ w_ ⟨rfl, HS_⟩; clear HS; have HS := HS_; clear HS_) | ((with_reducible refine gate_dst (N := 3) rfl ?_); go_must (refine ev_box HS rfl (N := 3) rfl (cs := #[.string ⟨#[]⟩, .slice none 0 0, .slice none 0 0, .int .i64 0, .int .i64 0]) (t := 41) ?hrun ?_); (case hrun => first | (go_simp; done) | (go_simp; rfl)); clear HS; intro g3 w HS; replace HS := rot3 HS) | ((with_reducible refine gate_store (t := 41) (p := 3) rfl ?_); go_must (refine ev_store HS 2 rfl rfl 41 (.tmp 3) (.tmp 9) rfl rfl rfl [.string nm, .slice none 0 0, .slice none 0 0, .int .i64 t.f3.f0, .int .i64 t.f3.f1] ?hx (by kernel_rfl) (by rfl) ?h1 ?_); (case hx => first | rfl | (go_simp; done)); (case h1 => simp [Value.oneCell']); clear HS; intro w HS))
  go_wp2_with (first | ((try (refine gate_guard (by rfl) ?_; dsimp only)); go_at_call 46; (first | (with_reducible refine (HW1.out _ _ HS).mono ?_)); rintro e_ w_ ⟨rfl, HS_⟩; clear HS; have HS := HS_; clear HS_))
  replace HS := rot3 (HS.nil Kd.string 9)
  go_loopg [] (s2.ts.length + 3) (fun kq w' => ∃ (k : Nat) (A : Option Addr) (c : Nat) (l : List ByteArray) (sc : PS), Aside0 (POk all sc ∧ k + l.length = s2.ts.length + 2 ∧ k < kq ∧ namesP k l sc = some (l1, s3)) ∧ Aside0 (Sat W0 w' (psB g A0 c0 all.length sc :: tkR A0 c0 all :: row Kd.string 9 (.slice A l.length c) l :: blk g3 41 #[.string nm, .slice A l.length c, .slice none 0 0, .int .i64 t.f3.f0, .int .i64 t.f3.f1] :: blk g2 41 #[.string ⟨#[]⟩, .slice none 0 0, .slice none 0 0, .int .i64 0, .int .i64 0] :: L)))
  case atStart => exact ⟨s2.ts.length + 2, none, 0, [], s2, ⟨HPO.out, rfl, by omega, HLL.out⟩, ⟨HS⟩⟩
  case round =>
    clear HS
    obtain ⟨k, A, c, l, sc, HI, HS'⟩ := hrel
    have HS := HS'.out
    clear HS'
    cases gk with
    | zero => have := HI.out.2.2.1; omega
    | succ k1 =>
      cases k with
      | zero => have := HI.out.2.2.2; rw [namesP] at this; cases this
      | succ k =>
        have hsc := HI.out.1
        have hc := HI.out.2.2.2
        rw [namesP] at hc
        cases hb : badP sc with
        | true =>
          rw [hb] at hc
          obtain ⟨rfl, rfl⟩ := pair_inj hc
          have HBD := Aside0.mk (fun (w : World) (L : List Chunk) (HS : Sat W0 w (psB g A0 c0 all.length sc :: tkR A0 c0 all :: L)) => bad_at hb HS)
          clear hsc hc hb
          go_wp2_with (first | ((try (refine gate_guard (by rfl) ?_; dsimp only)); go_at_call 21; (first | (with_reducible refine (HBD.out _ _ HS).mono ?_)); rintro e_ w_ ⟨rfl, HS_⟩; clear HS; have HS := HS_; clear HS_) | ((try (refine gate_guard (by rfl) ?_; dsimp only)); go_at_call 46; (first | (with_reducible refine (HW2.out _ _ HS).mono ?_)); rintro e_ w_ ⟨rfl, HS_⟩; clear HS; have HS := HS_; clear HS_) | ((try (refine gate_guard (by rfl) ?_; dsimp only)); go_at_call 47; refine (HBL.out _ _ (by repeat (first | exact HOLD.out | apply OldIn.cons)) HS).mono ?_; rintro e_ w_ ⟨bA, bn, bc, rfl, HS_⟩; clear HS; have HS := HS_; clear HS_; replace HS := rot3 HS) | ((with_reducible refine gate_store (t := 39) (p := 37) rfl ?_); go_must (refine ev_storeN HS 4 rfl rfl 2 39 (.tmp 37) (.tmp 36) rfl rfl rfl (.slice bA bn bc) ?hv [.slice bA bn bc] rfl (by kernel_rfl) (by simp) ?h1 #[.string nm, .slice A l.length c, .slice bA bn bc, .int .i64 t.f3.f0, .int .i64 t.f3.f1] rfl ?_); (case hv => first | rfl | (go_simp; done) | (go_simp; rfl)); (case h1 => simp [Value.oneCell']); clear HS; intro w HS) | ((with_reducible refine gate_dst (N := 38) rfl ?_); (with_reducible refine gate_load (ty := 41) (p := 3) rfl ?_); (try (refine gate_guard (by rfl) ?_; dsimp only)); go_must (refine ev_load HS 4 rfl rfl 41 (.tmp 3) rfl (N := 38) rfl rfl _ Tryd.underlying41 rfl (by kernel_rfl) ?_)) | ((with_reducible refine gate_store (t := 41) (p := 2) rfl ?_); go_must (refine ev_store HS 5 rfl rfl 41 (.tmp 2) (.tmp 38) rfl rfl rfl [.string nm, .slice A l.length c, .slice bA bn bc, .int .i64 t.f3.f0, .int .i64 t.f3.f1] ?hx (by kernel_rfl) (by rfl) ?h1 ?_); (case hx => first | rfl | (go_simp; done)); (case h1 => simp [Value.oneCell']); clear HS; intro w HS))
          refine ret_row HS 5 rfl (p := 2) rfl rfl _ Tryd.underlying41 rfl (by kernel_rfl) rfl ?_
          replace HS := HS.erase 4
          replace HS := HS.erase 4
          replace HS := HS.front 1 rfl
          replace HS := HS.front 1 rfl
          replace HS := HS.front 2 rfl
          replace HS := HS.front 3 rfl
          exact ⟨A, bA, l.length, bn, c, bc, rfl, fu_of_rows ⟨nm, l, b1, t.f3⟩ HS⟩
        | false =>
          have HBD := Aside0.mk (fun (w : World) (L : List Chunk) (HS : Sat W0 w (psB g A0 c0 all.length sc :: tkR A0 c0 all :: L)) => bad_at hb HS)
          cases hi : isP sc (bs [41]) with
          | true =>
            rw [hb, hi] at hc
            obtain ⟨rfl, rfl⟩ := pair_inj hc
            have HIS := Aside0.mk (fun (w : World) (L : List Chunk) (HS : Sat W0 w (psB g A0 c0 all.length sc :: tkR A0 c0 all :: L)) => show Calls Tryd.prog 43 #[.pointer (some ⟨g, 0, none⟩), .string ⟨#[41]⟩] w _ from is_at hsc hi HS)
            clear hsc hc hb hi
            go_wp2_with (first | ((try (refine gate_guard (by rfl) ?_; dsimp only)); go_at_call 21; (first | (with_reducible refine (HBD.out _ _ HS).mono ?_)); rintro e_ w_ ⟨rfl, HS_⟩; clear HS; have HS := HS_; clear HS_) | ((try (refine gate_guard (by rfl) ?_; dsimp only)); go_at_call 43; (first | (with_reducible refine (HIS.out _ _ HS).mono ?_)); rintro e_ w_ ⟨rfl, HS_⟩; clear HS; have HS := HS_; clear HS_) | ((try (refine gate_guard (by rfl) ?_; dsimp only)); go_at_call 46; (first | (with_reducible refine (HW2.out _ _ HS).mono ?_)); rintro e_ w_ ⟨rfl, HS_⟩; clear HS; have HS := HS_; clear HS_) | ((try (refine gate_guard (by rfl) ?_; dsimp only)); go_at_call 47; refine (HBL.out _ _ (by repeat (first | exact HOLD.out | apply OldIn.cons)) HS).mono ?_; rintro e_ w_ ⟨bA, bn, bc, rfl, HS_⟩; clear HS; have HS := HS_; clear HS_; replace HS := rot3 HS) | ((with_reducible refine gate_store (t := 39) (p := 37) rfl ?_); go_must (refine ev_storeN HS 4 rfl rfl 2 39 (.tmp 37) (.tmp 36) rfl rfl rfl (.slice bA bn bc) ?hv [.slice bA bn bc] rfl (by kernel_rfl) (by simp) ?h1 #[.string nm, .slice A l.length c, .slice bA bn bc, .int .i64 t.f3.f0, .int .i64 t.f3.f1] rfl ?_); (case hv => first | rfl | (go_simp; done) | (go_simp; rfl)); (case h1 => simp [Value.oneCell']); clear HS; intro w HS) | ((with_reducible refine gate_dst (N := 38) rfl ?_); (with_reducible refine gate_load (ty := 41) (p := 3) rfl ?_); (try (refine gate_guard (by rfl) ?_; dsimp only)); go_must (refine ev_load HS 4 rfl rfl 41 (.tmp 3) rfl (N := 38) rfl rfl _ Tryd.underlying41 rfl (by kernel_rfl) ?_)) | ((with_reducible refine gate_store (t := 41) (p := 2) rfl ?_); go_must (refine ev_store HS 5 rfl rfl 41 (.tmp 2) (.tmp 38) rfl rfl rfl [.string nm, .slice A l.length c, .slice bA bn bc, .int .i64 t.f3.f0, .int .i64 t.f3.f1] ?hx (by kernel_rfl) (by rfl) ?h1 ?_); (case hx => first | rfl | (go_simp; done)); (case h1 => simp [Value.oneCell']); clear HS; intro w HS))
            refine ret_row HS 5 rfl (p := 2) rfl rfl _ Tryd.underlying41 rfl (by kernel_rfl) rfl ?_
            replace HS := HS.erase 4
            replace HS := HS.erase 4
            replace HS := HS.front 1 rfl
            replace HS := HS.front 1 rfl
            replace HS := HS.front 2 rfl
            replace HS := HS.front 3 rfl
            exact ⟨A, bA, l.length, bn, c, bc, rfl, fu_of_rows ⟨nm, l, b1, t.f3⟩ HS⟩
          | false =>
            have HIS := Aside0.mk (fun (w : World) (L : List Chunk) (HS : Sat W0 w (psB g A0 c0 all.length sc :: tkR A0 c0 all :: L)) => show Calls Tryd.prog 43 #[.pointer (some ⟨g, 0, none⟩), .string ⟨#[41]⟩] w _ from is_at hsc hi HS)
            rw [hb, hi] at hc
            simp only [Bool.not_false, Bool.and_true, if_true] at hc
            have hLB := Aside0.mk (show (l.length + 1) * 16 ≤ 140737488355328 from by have := HI.out.2.1; have := HLN.out; omega)
            by_cases hl0 : 0 < l.length
            ·
              have HWC := Aside0.mk (fun (w : World) (L : List Chunk) (HS : Sat W0 w (psB g A0 c0 all.length sc :: tkR A0 c0 all :: L)) => show Calls Tryd.prog 46 #[.pointer (some ⟨g, 0, none⟩), .string ⟨#[44]⟩] w fun r w' => r = .returned (.tuple #[]) ∧ Sat W0 w' (psB g A0 c0 all.length (wantP sc (bs [44])) :: tkR A0 c0 all :: L) from want_callsP hsc HS (bs [44]))
              have hsd := hsc.want (bs [44])
              obtain ⟨sd, hs_⟩ : ∃ x, x = wantP sc (bs [44]) := ⟨_, rfl⟩
              rw [if_pos hl0, ← hs_] at hc
              rw [← hs_] at HWC hsd
              clear hs_
              have c1_ : (0 < (l.length : Int)) = True := eq_true (by omega)
              have c2_ : (0 < l.length) = True := eq_true hl0
              have HNN := Aside0.mk (fun (w : World) (L : List Chunk) (HS : Sat W0 w (psB g A0 c0 all.length sd :: tkR A0 c0 all :: L)) => name_callsP hsd HS)
              have hse := hsd.name
              obtain ⟨n1, hn1⟩ : ∃ x, x = (nameP sd).1 := ⟨_, rfl⟩
              obtain ⟨se, hs_⟩ : ∃ x, x = (nameP sd).2 := ⟨_, rfl⟩
              rw [← hn1, ← hs_] at hc HNN
              rw [← hs_] at hse
              have HC := Aside0.mk hc
              have HSE := Aside0.mk hse
              clear hn1 hs_ hc hse hsd hb hi hl0 hsc
              go_upto_region 4 with (first | ((try (refine gate_guard (by rfl) ?_; dsimp only)); go_at_call 21; (first | (with_reducible refine (HBD.out _ _ HS).mono ?_)); rintro e_ w_ ⟨rfl, HS_⟩; clear HS; have HS := HS_; clear HS_) | ((try (refine gate_guard (by rfl) ?_; dsimp only)); go_at_call 43; (first | (with_reducible refine (HIS.out _ _ HS).mono ?_)); rintro e_ w_ ⟨rfl, HS_⟩; clear HS; have HS := HS_; clear HS_))
              have cb0 := HS.cell 3 rfl
              go_upto_region 6 with (first | ((try (refine gate_guard (by rfl) ?_; dsimp only)); go_at_call 46; (first | (with_reducible refine (HWC.out _ _ HS).mono ?_)); rintro e_ w_ ⟨rfl, HS_⟩; clear HS; have HS := HS_; clear HS_))
              clear cb0
              refine start_ (n := 8) (S := fun w' => HasG W0 w' g3 41 1 (.slice A l.length c)) (ds := [7]) #[false, false, false, false, false, false, false, false] (by kernel_rfl) rfl rfl ⟨_, 3, _, rfl, HS.drew, rfl⟩ (fun hHeld => ?_)
              replace HS := HS.drew
              generalize World.drew w_ = w at HS hHeld ⊢
              refine pure_ (i := 0) (N := some 26) (v := ?_) (a' := ?_) #[true, false, false, false, false, false, false, false] rfl rfl (by kernel_rfl) (fun _ _ _ h => h) (Or.inl ⟨by rfl, ?_⟩) ?_ ?_
              rotate_left
              · intro w'
                go_simp
                with_reducible rfl
              rotate_left
              · (try simp only [Act.put, List.setIfInBounds_toArray, List.set_cons_zero, List.set_cons_succ, i64_w, i32_w])
                rfl
              refine take_ (i := 1) (N := some 27) (v := ?_) (a' := ?_) #[true, true, false, false, false, false, false, false] rfl rfl (by kernel_rfl) (fun _ _ _ h => h) (Or.inl ⟨by rfl, ?_⟩) hHeld ?_ ?_
              rotate_left
              · rintro w' hS
                have cb := hS.cell
                clear hS
                go_simp
                with_reducible rfl
              rotate_left
              · (try simp only [Act.put, List.setIfInBounds_toArray, List.set_cons_zero, List.set_cons_succ, i64_w, i32_w])
                rfl
              refine pure_ (i := 2) (N := some 28) (v := ?_) (a' := ?_) #[true, true, true, false, false, false, false, false] rfl rfl (by kernel_rfl) (fun _ _ _ h => h) (Or.inl ⟨by rfl, ?_⟩) ?_ ?_
              rotate_left
              · intro w'
                go_simp
                with_reducible rfl
              rotate_left
              · (try simp only [Act.put, List.setIfInBounds_toArray, List.set_cons_zero, List.set_cons_succ, i64_w, i32_w])
                rfl
              refine one_ (i := 3) (N := some 29) #[true, true, true, true, false, false, false, false] rfl rfl (by kernel_rfl) (by decide) (fun K hK => ?_)
              refine goes_ Tryd.func45 (by kernel_rfl) rfl #[.pointer (some ⟨g, 0, none⟩)] (by rfl) rfl rfl (by (try simp only [List.map_toArray, List.map_cons, List.map_nil]); first | done | rfl) ?_
              refine (HNN.out _ _ HS).mono ?_
              rintro e_ w_ ⟨rfl, HS_⟩
              refine ⟨_, rfl, ?_⟩
              clear HS
              have HS := HS_
              clear HS_
              refine hK.out _ _ ⟨_, 3, _, rfl, HS, rfl⟩ (fun hHeld => ?_)
              clear hK K
              refine norm_ (a' := ?_) ?_ ?_
              rotate_left
              · show Act.put _ _ _ = _
                (try simp only [Act.put, List.setIfInBounds_toArray, List.set_cons_zero, List.set_cons_succ, i64_w, i32_w])
                rfl
              refine one_ (i := 4) (N := some 30) #[true, true, true, true, true, false, false, false] rfl rfl (by kernel_rfl) (by decide) (fun K hK => ?_)
              refine ev_lit_step Kd.string (e := 9) HS (by rfl) (N := 30) rfl (xs := [n1]) (inner := [.string n1]) ?hrun ((Reps.none _ _).snoc (ps := []) (cs := []) (by first | exact rfl | exact ⟨rfl⟩) rfl) (by simp) ?_
              case hrun => first | (go_simp; done) | (go_simp; rfl)
              clear HS
              intro glt w HS
              refine hK.out _ _ ⟨_, 4, _, rfl, HS, rfl⟩ (fun hHeld => ?_)
              clear hK K
              refine norm_ (a' := ?_) ?_ ?_
              rotate_left
              · show Act.put _ _ _ = _
                (try simp only [Act.put, List.setIfInBounds_toArray, List.set_cons_zero, List.set_cons_succ, i64_w, i32_w])
                rfl
              refine one_ (i := 5) (N := some 31) #[true, true, true, true, true, true, false, false] rfl rfl (by kernel_rfl) (by decide) (fun K hK => ?_)
              refine ev_append_step Kd.string HS 3 (.tmp 27) (.tmp 30) 38 9 (.string ⟨#[]⟩) 16 rfl (HS.C 0 rfl) (fun _ _ h => h) (by rfl) (N := 31) rfl rfl (by rfl) (by rfl) Tryd.underlying38 infoStr rfl (by decide) (by omega) hLB.out ?_
              clear HS
              intro v31 w HS
              replace HS := HS.tail
              obtain ⟨A1, c1, rfl⟩ := HS.slice 2 rfl
              refine hK.out _ _ ⟨_, 3, _, rfl, HS, rfl⟩ (fun hHeld => ?_)
              clear hK K
              refine norm_ (a' := ?_) ?_ ?_
              rotate_left
              · show Act.put _ _ _ = _
                (try simp only [Act.put, List.setIfInBounds_toArray, List.set_cons_zero, List.set_cons_succ, i64_w, i32_w])
                rfl
              refine pure_ (i := 6) (N := some 32) (v := ?_) (a' := ?_) #[true, true, true, true, true, true, true, false] rfl rfl (by kernel_rfl) (fun _ _ _ h => h) (Or.inl ⟨by rfl, ?_⟩) ?_ ?_
              rotate_left
              · intro w'
                go_simp
                with_reducible rfl
              rotate_left
              · (try simp only [Act.put, List.setIfInBounds_toArray, List.set_cons_zero, List.set_cons_succ, i64_w, i32_w])
                rfl
              refine last_ (i := 7) (N := none) #[true, true, true, true, true, true, true, true] rfl rfl (by kernel_rfl) (by decide) (fun K hK => ?_)
              refine ev_storeN_step HS 3 rfl (by rfl) 1 38 (.tmp 32) (.tmp 31) rfl rfl rfl (.slice A1 (l ++ [n1]).length c1) rfl [.slice A1 (l ++ [n1]).length c1] rfl (by kernel_rfl) (by simp) (by simp [Value.oneCell']) #[.string nm, .slice A1 (l ++ [n1]).length c1, .slice none 0 0, .int .i64 t.f3.f0, .int .i64 t.f3.f1] rfl ?_
              clear HS
              intro w HS
              refine hK.out _ _ ?_
              clear hK K hHeld
              refine done_ (by kernel_rfl) ?_
              try clear hHeld
              go_wp2
              go_roundg k1
              case measure => exact Nat.lt_succ_self _
              case rel => exact ⟨k, A1, c1, l ++ [n1], se, ⟨HSE.out, by rw [List.length_append, List.length_singleton]; have := HI.out.2.1; omega, by have := HI.out.2.2.1; omega, HC.out⟩, ⟨HS⟩⟩
            ·
              rw [if_neg hl0] at hc
              obtain ⟨sd, hs_⟩ : ∃ x, x = sc := ⟨_, rfl⟩
              rw [← hs_] at hc
              have hsd : POk all sd := by rw [hs_]; exact hsc
              subst hs_
              have c1_ : (0 < (l.length : Int)) = False := eq_false (by omega)
              have c2_ : (0 < l.length) = False := eq_false hl0
              have HNN := Aside0.mk (fun (w : World) (L : List Chunk) (HS : Sat W0 w (psB g A0 c0 all.length sd :: tkR A0 c0 all :: L)) => name_callsP hsd HS)
              have hse := hsd.name
              obtain ⟨n1, hn1⟩ : ∃ x, x = (nameP sd).1 := ⟨_, rfl⟩
              obtain ⟨se, hs_⟩ : ∃ x, x = (nameP sd).2 := ⟨_, rfl⟩
              rw [← hn1, ← hs_] at hc HNN
              rw [← hs_] at hse
              have HC := Aside0.mk hc
              have HSE := Aside0.mk hse
              clear hn1 hs_ hc hse hsd hb hi hl0 hsc
              go_upto_region 4 with (first | ((try (refine gate_guard (by rfl) ?_; dsimp only)); go_at_call 21; (first | (with_reducible refine (HBD.out _ _ HS).mono ?_)); rintro e_ w_ ⟨rfl, HS_⟩; clear HS; have HS := HS_; clear HS_) | ((try (refine gate_guard (by rfl) ?_; dsimp only)); go_at_call 43; (first | (with_reducible refine (HIS.out _ _ HS).mono ?_)); rintro e_ w_ ⟨rfl, HS_⟩; clear HS; have HS := HS_; clear HS_))
              have cb0 := HS.cell 3 rfl
              go_upto_region 6 with (fail)
              clear cb0
              refine start_ (n := 8) (S := fun w' => HasG W0 w' g3 41 1 (.slice A l.length c)) (ds := [7]) #[false, false, false, false, false, false, false, false] (by kernel_rfl) rfl rfl ⟨_, 3, _, rfl, HS.drew, rfl⟩ (fun hHeld => ?_)
              replace HS := HS.drew
              generalize World.drew w_ = w at HS hHeld ⊢
              refine pure_ (i := 0) (N := some 26) (v := ?_) (a' := ?_) #[true, false, false, false, false, false, false, false] rfl rfl (by kernel_rfl) (fun _ _ _ h => h) (Or.inl ⟨by rfl, ?_⟩) ?_ ?_
              rotate_left
              · intro w'
                go_simp
                with_reducible rfl
              rotate_left
              · (try simp only [Act.put, List.setIfInBounds_toArray, List.set_cons_zero, List.set_cons_succ, i64_w, i32_w])
                rfl
              refine take_ (i := 1) (N := some 27) (v := ?_) (a' := ?_) #[true, true, false, false, false, false, false, false] rfl rfl (by kernel_rfl) (fun _ _ _ h => h) (Or.inl ⟨by rfl, ?_⟩) hHeld ?_ ?_
              rotate_left
              · rintro w' hS
                have cb := hS.cell
                clear hS
                go_simp
                with_reducible rfl
              rotate_left
              · (try simp only [Act.put, List.setIfInBounds_toArray, List.set_cons_zero, List.set_cons_succ, i64_w, i32_w])
                rfl
              refine pure_ (i := 2) (N := some 28) (v := ?_) (a' := ?_) #[true, true, true, false, false, false, false, false] rfl rfl (by kernel_rfl) (fun _ _ _ h => h) (Or.inl ⟨by rfl, ?_⟩) ?_ ?_
              rotate_left
              · intro w'
                go_simp
                with_reducible rfl
              rotate_left
              · (try simp only [Act.put, List.setIfInBounds_toArray, List.set_cons_zero, List.set_cons_succ, i64_w, i32_w])
                rfl
              refine one_ (i := 3) (N := some 29) #[true, true, true, true, false, false, false, false] rfl rfl (by kernel_rfl) (by decide) (fun K hK => ?_)
              refine goes_ Tryd.func45 (by kernel_rfl) rfl #[.pointer (some ⟨g, 0, none⟩)] (by rfl) rfl rfl (by (try simp only [List.map_toArray, List.map_cons, List.map_nil]); first | done | rfl) ?_
              refine (HNN.out _ _ HS).mono ?_
              rintro e_ w_ ⟨rfl, HS_⟩
              refine ⟨_, rfl, ?_⟩
              clear HS
              have HS := HS_
              clear HS_
              refine hK.out _ _ ⟨_, 3, _, rfl, HS, rfl⟩ (fun hHeld => ?_)
              clear hK K
              refine norm_ (a' := ?_) ?_ ?_
              rotate_left
              · show Act.put _ _ _ = _
                (try simp only [Act.put, List.setIfInBounds_toArray, List.set_cons_zero, List.set_cons_succ, i64_w, i32_w])
                rfl
              refine one_ (i := 4) (N := some 30) #[true, true, true, true, true, false, false, false] rfl rfl (by kernel_rfl) (by decide) (fun K hK => ?_)
              refine ev_lit_step Kd.string (e := 9) HS (by rfl) (N := 30) rfl (xs := [n1]) (inner := [.string n1]) ?hrun ((Reps.none _ _).snoc (ps := []) (cs := []) (by first | exact rfl | exact ⟨rfl⟩) rfl) (by simp) ?_
              case hrun => first | (go_simp; done) | (go_simp; rfl)
              clear HS
              intro glt w HS
              refine hK.out _ _ ⟨_, 4, _, rfl, HS, rfl⟩ (fun hHeld => ?_)
              clear hK K
              refine norm_ (a' := ?_) ?_ ?_
              rotate_left
              · show Act.put _ _ _ = _
                (try simp only [Act.put, List.setIfInBounds_toArray, List.set_cons_zero, List.set_cons_succ, i64_w, i32_w])
                rfl
              refine one_ (i := 5) (N := some 31) #[true, true, true, true, true, true, false, false] rfl rfl (by kernel_rfl) (by decide) (fun K hK => ?_)
              refine ev_append_step Kd.string HS 3 (.tmp 27) (.tmp 30) 38 9 (.string ⟨#[]⟩) 16 rfl (HS.C 0 rfl) (fun _ _ h => h) (by rfl) (N := 31) rfl rfl (by rfl) (by rfl) Tryd.underlying38 infoStr rfl (by decide) (by omega) hLB.out ?_
              clear HS
              intro v31 w HS
              replace HS := HS.tail
              obtain ⟨A1, c1, rfl⟩ := HS.slice 2 rfl
              refine hK.out _ _ ⟨_, 3, _, rfl, HS, rfl⟩ (fun hHeld => ?_)
              clear hK K
              refine norm_ (a' := ?_) ?_ ?_
              rotate_left
              · show Act.put _ _ _ = _
                (try simp only [Act.put, List.setIfInBounds_toArray, List.set_cons_zero, List.set_cons_succ, i64_w, i32_w])
                rfl
              refine pure_ (i := 6) (N := some 32) (v := ?_) (a' := ?_) #[true, true, true, true, true, true, true, false] rfl rfl (by kernel_rfl) (fun _ _ _ h => h) (Or.inl ⟨by rfl, ?_⟩) ?_ ?_
              rotate_left
              · intro w'
                go_simp
                with_reducible rfl
              rotate_left
              · (try simp only [Act.put, List.setIfInBounds_toArray, List.set_cons_zero, List.set_cons_succ, i64_w, i32_w])
                rfl
              refine last_ (i := 7) (N := none) #[true, true, true, true, true, true, true, true] rfl rfl (by kernel_rfl) (by decide) (fun K hK => ?_)
              refine ev_storeN_step HS 3 rfl (by rfl) 1 38 (.tmp 32) (.tmp 31) rfl rfl rfl (.slice A1 (l ++ [n1]).length c1) rfl [.slice A1 (l ++ [n1]).length c1] rfl (by kernel_rfl) (by simp) (by simp [Value.oneCell']) #[.string nm, .slice A1 (l ++ [n1]).length c1, .slice none 0 0, .int .i64 t.f3.f0, .int .i64 t.f3.f1] rfl ?_
              clear HS
              intro w HS
              refine hK.out _ _ ?_
              clear hK K hHeld
              refine done_ (by kernel_rfl) ?_
              try clear hHeld
              go_wp2
              go_roundg k1
              case measure => exact Nat.lt_succ_self _
              case rel => exact ⟨k, A1, c1, l ++ [n1], se, ⟨HSE.out, by rw [List.length_append, List.length_singleton]; have := HI.out.2.1; omega, by have := HI.out.2.2.1; omega, HC.out⟩, ⟨HS⟩⟩
end Go.Proofs.YtenkganofobioaaDoor.B
