/- Parsing: the small steps, continued. -/
import Derived.Test.YtenkganofobioaaDoorPaPrim
namespace Go.Proofs.YtenkganofobioaaDoor.B
open Go.RowKit Go.Proofs.YtenkganofobioaaDoor.Mine Go.Proofs.YtenkganofobioaaDoor.Sep Go.Proofs.YtenkganofobioaaDoorW.PrintWords Go.Proofs.YtenkganofobioaaDoorW.PrintLast Go.Proofs.YtenkganofobioaaDoorW.PrintMore
set_option linter.unusedVariables false
set_option linter.unusedSimpArgs false
attribute [local go_sem] Instr.field asAgg
set_option maxRecDepth 100000 in
set_option maxHeartbeats 4000000 in
theorem fail_callsP {W0 w : World} {L : List Chunk} {g : Nat} {A0 : Addr} {c0 : Nat} {all : List S71} {s : PS} (h : POk all s) (HS : Sat W0 w (psB g A0 c0 all.length s :: tkR A0 c0 all :: L)) (n : Int) :
    Calls Tryd.prog 26 #[.pointer (some ⟨g, 0, none⟩), .int .i64 n] w fun r w' => r = .returned (.tuple #[]) ∧ Sat W0 w' (psB g A0 c0 all.length (failP s n) :: tkR A0 c0 all :: L) := by
  have HNW := Aside0.mk (fun (w : World) (L : List Chunk) (HS : Sat W0 w (psB g A0 c0 all.length s :: tkR A0 c0 all :: L)) => now_calls h HS)
  unfold failP
  obtain ⟨t, ht⟩ : ∃ t, t = nowP s := ⟨_, rfl⟩
  rw [← ht] at HNW ⊢
  unfold tkA at HNW
  clear ht h
  by_cases h0 : s.e = 0
  · rw [if_pos h0]
    have c1_ : (s.e == 0) = true := by rw [h0]; rfl
    clear h0
    have HBACK := Aside0.mk (fun (w : World) (L2 : List Chunk) (HS : Sat W0 w (blk g 68 #[.slice (some (A0.add ((all.length - s.ts.length) * 5))) s.ts.length (c0 - (all.length - s.ts.length)), .int .i64 s.deep, .int .i64 n, .int .i64 t.f3.f0, .int .i64 t.f3.f1] :: L2)) => show Sat W0 w (psB g A0 c0 all.length { s with e := n, l := t.f3.f0, c := t.f3.f1 } :: L2) from HS)
    go_enter Tryd.func26, Tryd.ntmps26
    have cb := HS.cell 0 rfl
    go_upto_region 1 with (fail)
    clear cb
    go_wp2_with (first | (go_at_call 22; refine (HNW.out _ _ HS).mono ?_; rintro e_ w_ ⟨rfl, HS_⟩; clear HS; have HS := HS_; clear HS_) | ((with_reducible refine gate_store (t := 34) (p := 17) rfl ?_); go_must (refine ev_storeN HS 0 rfl rfl 2 34 (.tmp 17) (.tmp 15) rfl rfl rfl (.agg #[.int .i64 n, .int .i64 t.f3.f0, .int .i64 t.f3.f1]) ?hv [.int .i64 n, .int .i64 t.f3.f0, .int .i64 t.f3.f1] rfl (by kernel_rfl) (by simp) ?h1 #[.slice (some (A0.add ((all.length - s.ts.length) * 5))) s.ts.length (c0 - (all.length - s.ts.length)), .int .i64 s.deep, .int .i64 n, .int .i64 t.f3.f0, .int .i64 t.f3.f1] rfl ?_); (case hv => first | rfl | (go_simp; done)); (case h1 => simp [Value.oneCell']); clear HS; intro w HS))
    go_end0
    exact ⟨rfl, HBACK.out _ _ HS⟩
  · rw [if_neg h0]
    have c1_ : (s.e == 0) = false := beq_eq_false_iff_ne.2 h0
    clear h0
    go_enter Tryd.func26, Tryd.ntmps26
    have cb := HS.cell 0 rfl
    go_wp2
    go_end0
    exact ⟨rfl, HS⟩
set_option maxRecDepth 100000 in
set_option maxHeartbeats 4000000 in
theorem take_callsP {W0 w : World} {L : List Chunk} {g : Nat} {A0 : Addr} {c0 : Nat} {all : List S71} {s : PS} (h : POk all s) (HS : Sat W0 w (psB g A0 c0 all.length s :: tkR A0 c0 all :: L)) (x : ByteArray) :
    Calls Tryd.prog 23 #[.pointer (some ⟨g, 0, none⟩), .string x] w fun r w' => r = .returned (.bool (takeP s x).1) ∧ Sat W0 w' (psB g A0 c0 all.length (takeP s x).2 :: tkR A0 c0 all :: L) := by
  have HBD := Aside0.mk (fun (w : World) (L : List Chunk) (HS : Sat W0 w (psB g A0 c0 all.length s :: tkR A0 c0 all :: L)) => bad_calls HS)
  have HIS := Aside0.mk (fun (w : World) (L : List Chunk) (HS : Sat W0 w (psB g A0 c0 all.length s :: tkR A0 c0 all :: L)) => is_calls h HS x)
  have HSK := Aside0.mk (fun (w : World) (L : List Chunk) (HS : Sat W0 w (psB g A0 c0 all.length s :: tkR A0 c0 all :: L)) => skip_callsP h HS)
  unfold takeP
  cases hb : badP s with
  | true =>
    rw [hb] at HBD
    clear hb
    go_enter Tryd.func23, Tryd.ntmps23
    go_wp2_with (go_at_call 21; refine (HBD.out _ _ HS).mono ?_; rintro e_ w_ ⟨rfl, HS_⟩; clear HS; have HS := HS_; clear HS_)
    go_ret
    exact ⟨rfl, HS⟩
  | false =>
    rw [hb] at HBD
    clear hb
    cases hi : isP s x with
    | false =>
      rw [hi] at HIS
      clear hi
      go_enter Tryd.func23, Tryd.ntmps23
      go_wp2_with (first | (go_at_call 21; refine (HBD.out _ _ HS).mono ?_; rintro e_ w_ ⟨rfl, HS_⟩; clear HS; have HS := HS_; clear HS_) | ((try (refine gate_guard (by rfl) ?_; dsimp only)); go_at_call 43; refine (HIS.out _ _ HS).mono ?_; rintro e_ w_ ⟨rfl, HS_⟩; clear HS; have HS := HS_; clear HS_))
      go_ret
      exact ⟨rfl, HS⟩
    | true =>
      rw [hi] at HIS
      clear hi
      go_enter Tryd.func23, Tryd.ntmps23
      go_wp2_with (first | (go_at_call 21; refine (HBD.out _ _ HS).mono ?_; rintro e_ w_ ⟨rfl, HS_⟩; clear HS; have HS := HS_; clear HS_) | ((try (refine gate_guard (by rfl) ?_; dsimp only)); go_at_call 43; refine (HIS.out _ _ HS).mono ?_; rintro e_ w_ ⟨rfl, HS_⟩; clear HS; have HS := HS_; clear HS_) | (go_at_call 44; refine (HSK.out _ _ HS).mono ?_; rintro e_ w_ ⟨rfl, HS_⟩; clear HS; have HS := HS_; clear HS_))
      go_ret
      exact ⟨rfl, HS⟩
set_option maxRecDepth 100000 in
set_option maxHeartbeats 4000000 in
theorem want_callsP {W0 w : World} {L : List Chunk} {g : Nat} {A0 : Addr} {c0 : Nat} {all : List S71} {s : PS} (h : POk all s) (HS : Sat W0 w (psB g A0 c0 all.length s :: tkR A0 c0 all :: L)) (x : ByteArray) :
    Calls Tryd.prog 46 #[.pointer (some ⟨g, 0, none⟩), .string x] w fun r w' => r = .returned (.tuple #[]) ∧ Sat W0 w' (psB g A0 c0 all.length (wantP s x) :: tkR A0 c0 all :: L) := by
  have HTK := Aside0.mk (fun (w : World) (L : List Chunk) (HS : Sat W0 w (psB g A0 c0 all.length s :: tkR A0 c0 all :: L)) => take_callsP h HS x)
  have HFL := Aside0.mk (fun (w : World) (L : List Chunk) (HS : Sat W0 w (psB g A0 c0 all.length (takeP s x).2 :: tkR A0 c0 all :: L)) => fail_callsP (h.take x) HS 12)
  unfold wantP
  cases hb : (takeP s x).1 with
  | true =>
    rw [hb] at HTK
    clear hb
    go_enter Tryd.func46, Tryd.ntmps46
    go_wp2_with (go_at_call 23; refine (HTK.out _ _ HS).mono ?_; rintro e_ w_ ⟨rfl, HS_⟩; clear HS; have HS := HS_; clear HS_)
    go_end0
    exact ⟨rfl, HS⟩
  | false =>
    rw [hb] at HTK
    clear hb
    go_enter Tryd.func46, Tryd.ntmps46
    go_wp2_with (first | (go_at_call 23; refine (HTK.out _ _ HS).mono ?_; rintro e_ w_ ⟨rfl, HS_⟩; clear HS; have HS := HS_; clear HS_) | (go_at_call 26; refine (HFL.out _ _ HS).mono ?_; rintro e_ w_ ⟨rfl, HS_⟩; clear HS; have HS := HS_; clear HS_))
    go_end0
    exact ⟨rfl, HS⟩
set_option maxRecDepth 100000 in
set_option maxHeartbeats 4000000 in
theorem name_callsP {W0 w : World} {L : List Chunk} {g : Nat} {A0 : Addr} {c0 : Nat} {all : List S71} {s : PS} (h : POk all s) (HS : Sat W0 w (psB g A0 c0 all.length s :: tkR A0 c0 all :: L)) :
    Calls Tryd.prog 45 #[.pointer (some ⟨g, 0, none⟩)] w fun r w' => r = .returned (.string (nameP s).1) ∧ Sat W0 w' (psB g A0 c0 all.length (nameP s).2 :: tkR A0 c0 all :: L) := by
  have HBD := Aside0.mk (fun (w : World) (L : List Chunk) (HS : Sat W0 w (psB g A0 c0 all.length s :: tkR A0 c0 all :: L)) => bad_calls HS)
  have HNW := Aside0.mk (fun (w : World) (L : List Chunk) (HS : Sat W0 w (psB g A0 c0 all.length s :: tkR A0 c0 all :: L)) => now_calls h HS)
  have HSK := Aside0.mk (fun (w : World) (L : List Chunk) (HS : Sat W0 w (psB g A0 c0 all.length s :: tkR A0 c0 all :: L)) => skip_callsP h HS)
  have HFL := Aside0.mk (fun (w : World) (L : List Chunk) (HS : Sat W0 w (psB g A0 c0 all.length s :: tkR A0 c0 all :: L)) => fail_callsP h HS 12)
  unfold nameP
  obtain ⟨t, ht⟩ : ∃ t, t = nowP s := ⟨_, rfl⟩
  rw [← ht] at HNW HSK ⊢
  unfold tkA at HNW HSK
  clear ht
  cases hb : badP s with
  | true =>
    rw [hb] at HBD
    clear hb
    go_enter Tryd.func45, Tryd.ntmps45
    go_wp2_with (first | (go_at_call 21; refine (HBD.out _ _ HS).mono ?_; rintro e_ w_ ⟨rfl, HS_⟩; clear HS; have HS := HS_; clear HS_) | (go_at_call 26; refine (HFL.out _ _ HS).mono ?_; rintro e_ w_ ⟨rfl, HS_⟩; clear HS; have HS := HS_; clear HS_))
    go_ret
    exact ⟨rfl, HS⟩
  | false =>
    rw [hb] at HBD
    clear hb
    cases hk : (t.f0 != 1) with
    | true =>
      go_enter Tryd.func45, Tryd.ntmps45
      go_wp2_with (first | (go_at_call 21; refine (HBD.out _ _ HS).mono ?_; rintro e_ w_ ⟨rfl, HS_⟩; clear HS; have HS := HS_; clear HS_) | ((try (refine gate_guard (by rfl) ?_; dsimp only)); go_at_call 22; refine (HNW.out _ _ HS).mono ?_; rintro e_ w_ ⟨rfl, HS_⟩; clear HS; have HS := HS_; clear HS_) | (go_at_call 26; refine (HFL.out _ _ HS).mono ?_; rintro e_ w_ ⟨rfl, HS_⟩; clear HS; have HS := HS_; clear HS_))
      go_ret
      exact ⟨rfl, HS⟩
    | false =>
      go_enter Tryd.func45, Tryd.ntmps45
      go_wp2_with (first | (go_at_call 21; refine (HBD.out _ _ HS).mono ?_; rintro e_ w_ ⟨rfl, HS_⟩; clear HS; have HS := HS_; clear HS_) | ((try (refine gate_guard (by rfl) ?_; dsimp only)); go_at_call 22; refine (HNW.out _ _ HS).mono ?_; rintro e_ w_ ⟨rfl, HS_⟩; clear HS; have HS := HS_; clear HS_) | (go_at_call 44; refine (HSK.out _ _ HS).mono ?_; rintro e_ w_ ⟨rfl, HS_⟩; clear HS; have HS := HS_; clear HS_))
      go_ret
      exact ⟨rfl, HS⟩
set_option maxRecDepth 100000 in
set_option maxHeartbeats 4000000 in
theorem down_callsP {W0 w : World} {L : List Chunk} {g : Nat} {A0 : Addr} {c0 : Nat} {all : List S71} {s : PS} (h : POk all s) (HS : Sat W0 w (psB g A0 c0 all.length s :: tkR A0 c0 all :: L)) :
    Calls Tryd.prog 60 #[.pointer (some ⟨g, 0, none⟩)] w fun r w' => r = .returned (.bool (downP s).1) ∧ Sat W0 w' (psB g A0 c0 all.length (downP s).2 :: tkR A0 c0 all :: L) := by
  have HBD := Aside0.mk (fun (w : World) (L : List Chunk) (HS : Sat W0 w (psB g A0 c0 all.length s :: tkR A0 c0 all :: L)) => bad_calls HS)
  have HFL := Aside0.mk (fun (w : World) (L : List Chunk) (HS : Sat W0 w (psB g A0 c0 all.length s :: tkR A0 c0 all :: L)) => fail_callsP h HS 13)
  unfold downP
  have hd0 := h.d0
  have hd1 := h.d1
  have hw := w64 (s.deep + 1) (by omega) (by omega)
  cases hb : badP s with
  | true =>
    rw [hb] at HBD
    clear hb hw hd0 hd1
    go_enter Tryd.func60, Tryd.ntmps60
    go_wp2_with (go_at_call 21; refine (HBD.out _ _ HS).mono ?_; rintro e_ w_ ⟨rfl, HS_⟩; clear HS; have HS := HS_; clear HS_)
    go_ret
    exact ⟨rfl, HS⟩
  | false =>
    rw [hb] at HBD
    clear hb
    by_cases hk : 200 ≤ s.deep
    · have c1_ : (200 ≤ s.deep) = True := eq_true hk
      have c2_ : decide (s.deep ≥ 200) = true := decide_eq_true hk
      simp only [Bool.false_eq_true, if_false, if_pos hk]
      clear hk hw hd0 hd1
      go_enter Tryd.func60, Tryd.ntmps60
      go_upto_region 3 with (go_at_call 21; refine (HBD.out _ _ HS).mono ?_; rintro e_ w_ ⟨rfl, HS_⟩; clear HS; have HS := HS_; clear HS_)
      have cb := HS.cell 0 rfl
      go_wp2_with (go_at_call 26; refine (HFL.out _ _ HS).mono ?_; rintro e_ w_ ⟨rfl, HS_⟩; clear HS; have HS := HS_; clear HS_)
      go_ret
      exact ⟨rfl, HS⟩
    · have c1_ : (200 ≤ s.deep) = False := eq_false hk
      have c2_ : decide (s.deep ≥ 200) = false := decide_eq_false hk
      simp only [Bool.false_eq_true, if_false, if_neg hk]
      have HBACK := Aside0.mk (fun (w : World) (L2 : List Chunk) (HS : Sat W0 w (blk g 68 #[.slice (some (A0.add ((all.length - s.ts.length) * 5))) s.ts.length (c0 - (all.length - s.ts.length)), .int .i64 (s.deep + 1), .int .i64 s.e, .int .i64 s.l, .int .i64 s.c] :: L2)) => show Sat W0 w (psB g A0 c0 all.length { s with deep := s.deep + 1 } :: L2) from HS)
      clear hk hd0 hd1
      go_enter Tryd.func60, Tryd.ntmps60
      go_upto_region 3 with (go_at_call 21; refine (HBD.out _ _ HS).mono ?_; rintro e_ w_ ⟨rfl, HS_⟩; clear HS; have HS := HS_; clear HS_)
      have cb := HS.cell 0 rfl
      go_wp2_with ((with_reducible refine gate_store (t := 3) (p := 18) rfl ?_); go_must (refine ev_storeN HS 0 rfl rfl 1 3 (.tmp 18) (.tmp 16) rfl rfl rfl (.int .i64 (s.deep + 1)) ?hv [.int .i64 (s.deep + 1)] rfl (by kernel_rfl) (by simp) ?h1 #[.slice (some (A0.add ((all.length - s.ts.length) * 5))) s.ts.length (c0 - (all.length - s.ts.length)), .int .i64 (s.deep + 1), .int .i64 s.e, .int .i64 s.l, .int .i64 s.c] rfl ?_); (case hv => first | rfl | (go_simp; done) | (go_simp; rfl)); (case h1 => simp [Value.oneCell']); clear HS; intro w HS)
      go_ret
      exact ⟨rfl, HBACK.out _ _ HS⟩
end Go.Proofs.YtenkganofobioaaDoor.B
