/- Parsing: args. -/
import Derived.Test.YtenkganofobioaaDoorPaWhole
namespace Go.Proofs.YtenkganofobioaaDoor.B
open Go.RowKit Go.Proofs.YtenkganofobioaaDoor.Mine Go.Proofs.YtenkganofobioaaDoor.Sep Go.Proofs.YtenkganofobioaaDoorW.PrintWords Go.Proofs.YtenkganofobioaaDoorW.PrintLast Go.Proofs.YtenkganofobioaaDoorW.PrintMore
set_option linter.unusedVariables false
set_option linter.unusedSimpArgs false
attribute [local go_sem] Instr.field asAgg
theorem infoX : (Tryd.prog.info? 51).map (fun i => (i.zero, i.size, i.bytes)) = some (some (.agg #[.int .i64 0, .int .i64 0, .int .i64 0, .int .i64 0, .string ⟨#[]⟩, .int .i64 0, .slice none 0 0]), 7, 80) := by kernel_rfl
theorem ev_litb {P : Program} {ops : Array Oper} {rest : List Oper} {o : Oper} {a : Act} {Q : Exit → Act → World → Prop} {W0 w : World} {L : List Chunk} (HS : Sat W0 w L) (hgd : o.guard = none) {N : Tmp} (hd : o.dst = some N) {e n : Nat} {cs : Array Value}
    (hrun : (execOp a.eval o).run P w = .ok (.value (.slice (some ⟨w.heap.size, 0, none⟩) n n)) (w.alloc (.cells cs e (0, 0))))
    (h : ∀ g w1, Sat W0 w1 (blk g e cs :: L) → wpList P ops Q rest (a.put (some N) (.slice (some ⟨g, 0, none⟩) n n)) w1) : wpList P ops Q (o :: rest) a w :=
  Kd.event_run hgd hrun (by rw [hd]; exact h _ _ (HS.alloc e cs))
/-- How listP goes on, by length: what is parsed behind l. -/
theorem list_len {wh : PS → Option (EX × PS)} (stop : List UInt8) : ∀ (k : Nat) (l : List EX) (s : PS) (l' : List EX) (s' : PS), listP wh stop k l s = some (l', s') → l'.length < l.length + k
  | 0, l, s, l', s', hc => by rw [listP] at hc; cases hc
  | k + 1, l, s, l', s', hc => by
    rw [listP] at hc
    split at hc
    · split at hc
      · cases hc
      · have := list_len stop k _ _ _ _ hc
        rw [List.length_append, List.length_singleton] at this
        omega
    · obtain ⟨rfl, rfl⟩ := pair_inj hc; omega
/-- args answers a list of expressions. -/
def ArC (all : List TK) (f : FuncId) (xs : List Value) (p : PS → Option (List EX × PS)) : Prop :=
  ∀ (W0 w : World) (L : List Chunk) (g : Nat) (A0 : Addr) (c0 io : Nat) (s : PS) (e : List EX) (s' : PS), GL W0 → L[io]? = some (old W0) → POk all s → p s = some (e, s') → Sat W0 w (psB g A0 c0 all.length s :: tkR A0 c0 all :: L) →
    Calls Tryd.prog f (Value.pointer (some ⟨g, 0, none⟩) :: xs).toArray w fun r w' => ∃ (A : Option Addr) (n c : Nat), r = .returned (.slice A n c) ∧ Sat W0 w' (row k51 51 (.slice A n c) e :: psB g A0 c0 all.length s' :: tkR A0 c0 all :: L)
set_option maxRecDepth 100000 in
set_option maxHeartbeats 8000000 in
theorem args_walk {all : List TK} {F : Fns} (hF : FKeep all F) (hW : ExC all 73 [] F.whole) : ArC all 98 [] (argsP F) := by
  intro W0 w L g A0 c0 io s e s' hG hio h hp HS
  have HWF := Aside0.mk hW
  have HFK := Aside0.mk hF
  have HGL := Aside0.mk hG
  have HIO := Aside0.mk hio
  have HLN := Aside0.mk (show s.ts.length ≤ 65537 from by have := h.len.2; have := h.few; omega)
  unfold argsP at hp
  cases hl : listP F.whole [41] (s.ts.length + 2) [] s with
  | none => rw [hl] at hp; cases hp
  | some r =>
    obtain ⟨l1, s2⟩ := r
    rw [hl] at hp
    obtain ⟨rfl, rfl⟩ := pair_inj hp
    have HLL := Aside0.mk hl
    have HPO := Aside0.mk h
    clear hp hl h hW hF hG hio
    go_enter Tryd.func98, Tryd.ntmps98
    have HS := HS.nil k51 51
    go_wp2
    go_loopg [3] (s.ts.length + 3) (fun kq v3 w' => ∃ (k : Nat) (A : Option Addr) (c : Nat) (l : List EX) (s1 : PS), v3 = .slice A l.length c ∧ Aside0 (POk all s1 ∧ k + l.length = s.ts.length + 2 ∧ k < kq ∧ listP F.whole [41] k l s1 = some (l1, s2)) ∧ Aside0 (Sat W0 w' (row k51 51 (.slice A l.length c) l :: psB g A0 c0 all.length s1 :: tkR A0 c0 all :: L)))
    case atStart => exact ⟨s.ts.length + 2, none, 0, [], s, rfl, ⟨HPO.out, rfl, by omega, HLL.out⟩, ⟨HS⟩⟩
    case round =>
      clear HS
      obtain ⟨k, A, c, l, s1, rfl, HI, HS'⟩ := hrel
      have HS := rot3 HS'.out
      clear HS'
      cases gk with
      | zero => have := HI.out.2.2.1; omega
      | succ k1 =>
        cases k with
        | zero => have := HI.out.2.2.2; rw [listP] at this; cases this
        | succ k =>
          have HST0 := Aside0.mk HI.out.2.2.2
          have HBD := Aside0.mk (fun (w : World) (L : List Chunk) (HS : Sat W0 w (psB g A0 c0 all.length s1 :: L)) => bad_calls HS)
          have HIS := Aside0.mk (fun (w : World) (L : List Chunk) (HS : Sat W0 w (psB g A0 c0 all.length s1 :: tkR A0 c0 all :: L)) => is_calls HI.out.1 HS (bs [41]))
          cases hb : badP s1 with
          | true =>
            rw [hb] at HBD
            have HST := Aside0.mk (show some (l, s1) = some (l1, s2) from by have e := HST0.out; rw [listP, hb] at e; exact e)
            clear hb HST0
            have e := HST.out
            obtain ⟨e1, e2⟩ := pair_inj e
            have HWT := Aside0.mk (fun (w : World) (L : List Chunk) (HS : Sat W0 w (psB g A0 c0 all.length s1 :: tkR A0 c0 all :: L)) => want_callsP HI.out.1 HS (bs [41]))
            go_wp2_with (first | (go_at_call 21; refine (HBD.out _ _ HS).mono ?_; rintro e_ w_ ⟨rfl, HS_⟩; clear HS; have HS := HS_; clear HS_) | (go_at_call 46; refine (HWT.out _ _ HS).mono ?_; rintro e_ w_ ⟨rfl, HS_⟩; clear HS; have HS := HS_; clear HS_))
            go_ret
            subst e1 e2
            exact ⟨A, l.length, c, rfl, tor3 HS⟩
          | false =>
            rw [hb] at HBD
            cases hi : isP s1 (bs [41]) with
            | true =>
              rw [hi] at HIS
              have HST := Aside0.mk (show some (l, s1) = some (l1, s2) from by have e := HST0.out; rw [listP, hb, hi] at e; exact e)
              clear hb hi HST0
              have e := HST.out
              obtain ⟨e1, e2⟩ := pair_inj e
              have HWT := Aside0.mk (fun (w : World) (L : List Chunk) (HS : Sat W0 w (psB g A0 c0 all.length s1 :: tkR A0 c0 all :: L)) => want_callsP HI.out.1 HS (bs [41]))
              go_wp2_with (first | (go_at_call 21; refine (HBD.out _ _ HS).mono ?_; rintro e_ w_ ⟨rfl, HS_⟩; clear HS; have HS := HS_; clear HS_) | ((try (refine gate_guard (by rfl) ?_; dsimp only)); go_at_call 43; refine (HIS.out _ _ HS).mono ?_; rintro e_ w_ ⟨rfl, HS_⟩; clear HS; have HS := HS_; clear HS_) | (go_at_call 46; refine (HWT.out _ _ HS).mono ?_; rintro e_ w_ ⟨rfl, HS_⟩; clear HS; have HS := HS_; clear HS_))
              go_ret
              subst e1 e2
              exact ⟨A, l.length, c, rfl, tor3 HS⟩
            | false =>
              rw [hi] at HIS
              have HST := Aside0.mk (show (match F.whole (if 0 < l.length then wantP s1 (bs [44]) else s1) with | none => none | some (e, s3) => listP F.whole [41] k (l ++ [e]) s3) = some (l1, s2) from by have e := HST0.out; rw [listP, hb, hi] at e; exact e)
              clear hb hi HST0
              by_cases hl0 : 0 < l.length
              · have e := HST.out
                rw [if_pos hl0] at e
                cases hw0 : F.whole (wantP s1 (bs [44])) with
                | none => rw [hw0] at e; cases e
                | some r3 =>
                  obtain ⟨e3, s3⟩ := r3
                  rw [hw0] at e
                  have hw := Aside0.mk hw0
                  have HSL := Aside0.mk (show listP F.whole [41] k (l ++ [e3]) s3 = some (l1, s2) from e)
                  have HPX := Aside0.mk (HI.out.1.want (bs [44]))
                  have HWT := Aside0.mk (fun (w : World) (L : List Chunk) (HS : Sat W0 w (psB g A0 c0 all.length s1 :: tkR A0 c0 all :: L)) => want_callsP HI.out.1 HS (bs [44]))
                  have c1_ : (0 < (l.length : Int)) = True := eq_true (by omega)
                  have c2_ : (0 < l.length) = True := eq_true hl0
                  clear e hw0 HST hl0
                  have HWH := Aside0.mk (fun (w : World) (c1 : Chunk) (HS : Sat W0 w (psB g A0 c0 all.length (wantP s1 (bs [44])) :: tkR A0 c0 all :: c1 :: L)) => HWF.out W0 w (c1 :: L) g A0 c0 (io + 1) (wantP s1 (bs [44])) e3 s3 HGL.out (by simpa using HIO.out) HPX.out hw.out HS)
                  have hLB := Aside0.mk (show (l.length + 1) * 80 ≤ 140737488355328 from by have := HI.out.2.1; have := HLN.out; omega)
                  go_wp2_with (first | (go_at_call 21; refine (HBD.out _ _ HS).mono ?_; rintro e_ w_ ⟨rfl, HS_⟩; clear HS; have HS := HS_; clear HS_) | ((try (refine gate_guard (by rfl) ?_; dsimp only)); go_at_call 43; refine (HIS.out _ _ HS).mono ?_; rintro e_ w_ ⟨rfl, HS_⟩; clear HS; have HS := HS_; clear HS_) | (go_at_call 46; refine (HWT.out _ _ HS).mono ?_; rintro e_ w_ ⟨rfl, HS_⟩; clear HS; have HS := HS_; clear HS_) | (go_at_call 73; refine (HWH.out _ _ HS).mono ?_; rintro e_ w_ ⟨vA, vn, vc, rfl, HS_⟩; clear HS; have HS := HS_; clear HS_) | ((with_reducible refine gate_dst (N := 20) rfl ?_); go_must (refine ev_litb HS rfl (N := 20) rfl (cs := (exA e3 (.slice vA vn vc)).toArray) (e := 51) (n := 1) ?hrun ?_); (case hrun => first | (go_simp; done) | (go_simp; rfl)); clear HS; intro g20 w HS; replace HS := (row_one e3 HS).front 3 rfl) | ((with_reducible refine gate_builtin (b := .append) (xs := #[.tmp 17, .tmp 20]) rfl ?_); go_must (refine ev_append_own k51 (.tmp 17) (.tmp 20) 43 51 (.agg #[.int .i64 0, .int .i64 0, .int .i64 0, .int .i64 0, .string ⟨#[]⟩, .int .i64 0, .slice none 0 0]) 80 HS rfl rfl rfl rfl Tryd.underlying43 infoX rfl (by show 0 < 7; decide) (by omega) hLB.out ?_); clear HS; intro v21 w HS))
                  obtain ⟨A1, c1, rfl⟩ := HS.slice 0 rfl
                  go_roundg k1
                  case measure => exact Nat.lt_succ_self _
                  case rel => exact ⟨k, A1, c1, l ++ [e3], s3, rfl, ⟨(HFK.out.whole _ _ _ HPX.out hw.out).1, by rw [List.length_append, List.length_singleton]; have := HI.out.2.1; omega, by have := HI.out.2.2.1; omega, HSL.out⟩, ⟨HS⟩⟩
              · have e := HST.out
                rw [if_neg hl0] at e
                cases hw0 : F.whole s1 with
                | none => rw [hw0] at e; cases e
                | some r3 =>
                  obtain ⟨e3, s3⟩ := r3
                  rw [hw0] at e
                  have hw := Aside0.mk hw0
                  have HSL := Aside0.mk (show listP F.whole [41] k (l ++ [e3]) s3 = some (l1, s2) from e)
                  have HPX := Aside0.mk HI.out.1
                  have c1_ : (0 < (l.length : Int)) = False := eq_false (by omega)
                  have c2_ : (0 < l.length) = False := eq_false hl0
                  clear e hw0 HST hl0
                  have HWH := Aside0.mk (fun (w : World) (c1 : Chunk) (HS : Sat W0 w (psB g A0 c0 all.length s1 :: tkR A0 c0 all :: c1 :: L)) => HWF.out W0 w (c1 :: L) g A0 c0 (io + 1) s1 e3 s3 HGL.out (by simpa using HIO.out) HPX.out hw.out HS)
                  have hLB := Aside0.mk (show (l.length + 1) * 80 ≤ 140737488355328 from by have := HI.out.2.1; have := HLN.out; omega)
                  go_wp2_with (first | (go_at_call 21; refine (HBD.out _ _ HS).mono ?_; rintro e_ w_ ⟨rfl, HS_⟩; clear HS; have HS := HS_; clear HS_) | ((try (refine gate_guard (by rfl) ?_; dsimp only)); go_at_call 43; refine (HIS.out _ _ HS).mono ?_; rintro e_ w_ ⟨rfl, HS_⟩; clear HS; have HS := HS_; clear HS_) | (go_at_call 73; refine (HWH.out _ _ HS).mono ?_; rintro e_ w_ ⟨vA, vn, vc, rfl, HS_⟩; clear HS; have HS := HS_; clear HS_) | ((with_reducible refine gate_dst (N := 20) rfl ?_); go_must (refine ev_litb HS rfl (N := 20) rfl (cs := (exA e3 (.slice vA vn vc)).toArray) (e := 51) (n := 1) ?hrun ?_); (case hrun => first | (go_simp; done) | (go_simp; rfl)); clear HS; intro g20 w HS; replace HS := (row_one e3 HS).front 3 rfl) | ((with_reducible refine gate_builtin (b := .append) (xs := #[.tmp 17, .tmp 20]) rfl ?_); go_must (refine ev_append_own k51 (.tmp 17) (.tmp 20) 43 51 (.agg #[.int .i64 0, .int .i64 0, .int .i64 0, .int .i64 0, .string ⟨#[]⟩, .int .i64 0, .slice none 0 0]) 80 HS rfl rfl rfl rfl Tryd.underlying43 infoX rfl (by show 0 < 7; decide) (by omega) hLB.out ?_); clear HS; intro v21 w HS))
                  obtain ⟨A1, c1, rfl⟩ := HS.slice 0 rfl
                  go_roundg k1
                  case measure => exact Nat.lt_succ_self _
                  case rel => exact ⟨k, A1, c1, l ++ [e3], s3, rfl, ⟨(HFK.out.whole _ _ _ HPX.out hw.out).1, by rw [List.length_append, List.length_singleton]; have := HI.out.2.1; omega, by have := HI.out.2.2.1; omega, HSL.out⟩, ⟨HS⟩⟩
end Go.Proofs.YtenkganofobioaaDoor.B
