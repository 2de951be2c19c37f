/- Parsing: the closures that go up again; mark. -/
import Derived.Test.YtenkganofobioaaDoorPaPrim2
import Derived.Test.YtenkganofobioaaDoorPaPure
import Derived.Defers
namespace Go.Proofs.YtenkganofobioaaDoor.B
open Go.RowKit Go.Proofs.YtenkganofobioaaDoor.Mine Go.Proofs.YtenkganofobioaaDoor.Sep Go.Proofs.YtenkganofobioaaDoorW.PrintWords Go.Proofs.YtenkganofobioaaDoorW.PrintLast Go.Proofs.YtenkganofobioaaDoorW.PrintMore
set_option linter.unusedVariables false
set_option linter.unusedSimpArgs false
attribute [local go_sem] Instr.field asAgg
set_option maxRecDepth 100000 in
set_option maxHeartbeats 4000000 in
theorem upw_calls {W0 w : World} {L : List Chunk} {g gb : Nat} {A0 : Addr} {c0 N : Nat} {s : PS} (h0 : 0 ≤ s.deep) (h1 : s.deep ≤ 200) (HS : Sat W0 w (psB g A0 c0 N s :: blk gb 66 #[.pointer (some ⟨g, 0, none⟩)] :: L)) :
    Calls Tryd.prog 85 #[.pointer (some ⟨gb, 0, none⟩)] w fun r w' => r = .returned (.tuple #[]) ∧ Sat W0 w' (psB g A0 c0 N (upP s) :: blk gb 66 #[.pointer (some ⟨g, 0, none⟩)] :: L) := by
  have hw := w64 (s.deep - 1) (by omega) (by omega)
  have HBACK := Aside0.mk (fun (w : World) (L2 : List Chunk) (HS : Sat W0 w (blk g 68 #[.slice (some (A0.add ((N - s.ts.length) * 5))) s.ts.length (c0 - (N - s.ts.length)), .int .i64 (s.deep - 1), .int .i64 s.e, .int .i64 s.l, .int .i64 s.c] :: L2)) => show Sat W0 w (psB g A0 c0 N (upP s) :: L2) from HS)
  clear h0 h1
  go_enter Tryd.func85, Tryd.ntmps85
  have cb := HS.cell 0 rfl
  have cb1 := HS.cell 1 rfl
  go_wp2_with ((with_reducible refine gate_store (t := 3) (p := 7) rfl ?_); go_must (refine ev_storeN HS 0 rfl rfl 1 3 (.tmp 7) (.tmp 5) rfl rfl rfl (.int .i64 (s.deep - 1)) ?hv [.int .i64 (s.deep - 1)] rfl (by kernel_rfl) (by simp) ?h1 #[.slice (some (A0.add ((N - s.ts.length) * 5))) s.ts.length (c0 - (N - s.ts.length)), .int .i64 (s.deep - 1), .int .i64 s.e, .int .i64 s.l, .int .i64 s.c] rfl ?_); (case hv => first | rfl | (go_simp; done) | (go_simp; rfl)); (case h1 => simp [Value.oneCell']); clear HS; intro w HS)
  go_end0
  exact ⟨rfl, HBACK.out _ _ HS⟩
set_option maxRecDepth 100000 in
set_option maxHeartbeats 4000000 in
theorem upw_d {u : FrameMode} {W0 w : World} {L : List Chunk} {g gb : Nat} {A0 : Addr} {c0 N : Nat} {s : PS} (h0 : 0 ≤ s.deep) (h1 : s.deep ≤ 200) (HS : Sat W0 w (psB g A0 c0 N s :: blk gb 66 #[.pointer (some ⟨g, 0, none⟩)] :: L)) :
    CallsD Tryd.prog 85 #[.pointer (some ⟨gb, 0, none⟩)] u w fun r u' w' => u' = u ∧ (r = .returned (.tuple #[]) ∧ Sat W0 w' (psB g A0 c0 N (upP s) :: blk gb 66 #[.pointer (some ⟨g, 0, none⟩)] :: L)) := by
  have hw := w64 (s.deep - 1) (by omega) (by omega)
  have HBACK := Aside0.mk (fun (w : World) (L2 : List Chunk) (HS : Sat W0 w (blk g 68 #[.slice (some (A0.add ((N - s.ts.length) * 5))) s.ts.length (c0 - (N - s.ts.length)), .int .i64 (s.deep - 1), .int .i64 s.e, .int .i64 s.l, .int .i64 s.c] :: L2)) => show Sat W0 w (psB g A0 c0 N (upP s) :: L2) from HS)
  clear h0 h1
  go_enter_d Tryd.func85, Tryd.ntmps85
  have cb := HS.cell 0 rfl
  have cb1 := HS.cell 1 rfl
  go_wp2_with ((with_reducible refine gate_store (t := 3) (p := 7) rfl ?_); go_must (refine ev_storeN HS 0 rfl rfl 1 3 (.tmp 7) (.tmp 5) rfl rfl rfl (.int .i64 (s.deep - 1)) ?hv [.int .i64 (s.deep - 1)] rfl (by kernel_rfl) (by simp) ?h1 #[.slice (some (A0.add ((N - s.ts.length) * 5))) s.ts.length (c0 - (N - s.ts.length)), .int .i64 (s.deep - 1), .int .i64 s.e, .int .i64 s.l, .int .i64 s.c] rfl ?_); (case hv => first | rfl | (go_simp; done) | (go_simp; rfl)); (case h1 => simp [Value.oneCell']); clear HS; intro w HS)
  go_end0
  exact ⟨rfl, HBACK.out _ _ HS⟩
set_option maxRecDepth 100000 in
set_option maxHeartbeats 4000000 in
theorem upb_calls {W0 w : World} {L : List Chunk} {g gb : Nat} {A0 : Addr} {c0 N : Nat} {s : PS} (h0 : 0 ≤ s.deep) (h1 : s.deep ≤ 200) (HS : Sat W0 w (psB g A0 c0 N s :: blk gb 66 #[.pointer (some ⟨g, 0, none⟩)] :: L)) :
    Calls Tryd.prog 61 #[.pointer (some ⟨gb, 0, none⟩)] w fun r w' => r = .returned (.tuple #[]) ∧ Sat W0 w' (psB g A0 c0 N (upP s) :: blk gb 66 #[.pointer (some ⟨g, 0, none⟩)] :: L) := by
  have hw := w64 (s.deep - 1) (by omega) (by omega)
  have HBACK := Aside0.mk (fun (w : World) (L2 : List Chunk) (HS : Sat W0 w (blk g 68 #[.slice (some (A0.add ((N - s.ts.length) * 5))) s.ts.length (c0 - (N - s.ts.length)), .int .i64 (s.deep - 1), .int .i64 s.e, .int .i64 s.l, .int .i64 s.c] :: L2)) => show Sat W0 w (psB g A0 c0 N (upP s) :: L2) from HS)
  clear h0 h1
  go_enter Tryd.func61, Tryd.ntmps61
  have cb := HS.cell 0 rfl
  have cb1 := HS.cell 1 rfl
  go_wp2_with ((with_reducible refine gate_store (t := 3) (p := 7) rfl ?_); go_must (refine ev_storeN HS 0 rfl rfl 1 3 (.tmp 7) (.tmp 5) rfl rfl rfl (.int .i64 (s.deep - 1)) ?hv [.int .i64 (s.deep - 1)] rfl (by kernel_rfl) (by simp) ?h1 #[.slice (some (A0.add ((N - s.ts.length) * 5))) s.ts.length (c0 - (N - s.ts.length)), .int .i64 (s.deep - 1), .int .i64 s.e, .int .i64 s.l, .int .i64 s.c] rfl ?_); (case hv => first | rfl | (go_simp; done) | (go_simp; rfl)); (case h1 => simp [Value.oneCell']); clear HS; intro w HS)
  go_end0
  exact ⟨rfl, HBACK.out _ _ HS⟩
set_option maxRecDepth 100000 in
set_option maxHeartbeats 4000000 in
theorem upb_d {u : FrameMode} {W0 w : World} {L : List Chunk} {g gb : Nat} {A0 : Addr} {c0 N : Nat} {s : PS} (h0 : 0 ≤ s.deep) (h1 : s.deep ≤ 200) (HS : Sat W0 w (psB g A0 c0 N s :: blk gb 66 #[.pointer (some ⟨g, 0, none⟩)] :: L)) :
    CallsD Tryd.prog 61 #[.pointer (some ⟨gb, 0, none⟩)] u w fun r u' w' => u' = u ∧ (r = .returned (.tuple #[]) ∧ Sat W0 w' (psB g A0 c0 N (upP s) :: blk gb 66 #[.pointer (some ⟨g, 0, none⟩)] :: L)) := by
  have hw := w64 (s.deep - 1) (by omega) (by omega)
  have HBACK := Aside0.mk (fun (w : World) (L2 : List Chunk) (HS : Sat W0 w (blk g 68 #[.slice (some (A0.add ((N - s.ts.length) * 5))) s.ts.length (c0 - (N - s.ts.length)), .int .i64 (s.deep - 1), .int .i64 s.e, .int .i64 s.l, .int .i64 s.c] :: L2)) => show Sat W0 w (psB g A0 c0 N (upP s) :: L2) from HS)
  clear h0 h1
  go_enter_d Tryd.func61, Tryd.ntmps61
  have cb := HS.cell 0 rfl
  have cb1 := HS.cell 1 rfl
  go_wp2_with ((with_reducible refine gate_store (t := 3) (p := 7) rfl ?_); go_must (refine ev_storeN HS 0 rfl rfl 1 3 (.tmp 7) (.tmp 5) rfl rfl rfl (.int .i64 (s.deep - 1)) ?hv [.int .i64 (s.deep - 1)] rfl (by kernel_rfl) (by simp) ?h1 #[.slice (some (A0.add ((N - s.ts.length) * 5))) s.ts.length (c0 - (N - s.ts.length)), .int .i64 (s.deep - 1), .int .i64 s.e, .int .i64 s.l, .int .i64 s.c] rfl ?_); (case hv => first | rfl | (go_simp; done) | (go_simp; rfl)); (case h1 => simp [Value.oneCell']); clear HS; intro w HS)
  go_end0
  exact ⟨rfl, HBACK.out _ _ HS⟩
set_option maxRecDepth 100000 in
set_option maxHeartbeats 4000000 in
theorem upu_calls {W0 w : World} {L : List Chunk} {g gb : Nat} {A0 : Addr} {c0 N : Nat} {s : PS} (h0 : 0 ≤ s.deep) (h1 : s.deep ≤ 200) (HS : Sat W0 w (psB g A0 c0 N s :: blk gb 66 #[.pointer (some ⟨g, 0, none⟩)] :: L)) :
    Calls Tryd.prog 95 #[.pointer (some ⟨gb, 0, none⟩)] w fun r w' => r = .returned (.tuple #[]) ∧ Sat W0 w' (psB g A0 c0 N (upP s) :: blk gb 66 #[.pointer (some ⟨g, 0, none⟩)] :: L) := by
  have hw := w64 (s.deep - 1) (by omega) (by omega)
  have HBACK := Aside0.mk (fun (w : World) (L2 : List Chunk) (HS : Sat W0 w (blk g 68 #[.slice (some (A0.add ((N - s.ts.length) * 5))) s.ts.length (c0 - (N - s.ts.length)), .int .i64 (s.deep - 1), .int .i64 s.e, .int .i64 s.l, .int .i64 s.c] :: L2)) => show Sat W0 w (psB g A0 c0 N (upP s) :: L2) from HS)
  clear h0 h1
  go_enter Tryd.func95, Tryd.ntmps95
  have cb := HS.cell 0 rfl
  have cb1 := HS.cell 1 rfl
  go_wp2_with ((with_reducible refine gate_store (t := 3) (p := 7) rfl ?_); go_must (refine ev_storeN HS 0 rfl rfl 1 3 (.tmp 7) (.tmp 5) rfl rfl rfl (.int .i64 (s.deep - 1)) ?hv [.int .i64 (s.deep - 1)] rfl (by kernel_rfl) (by simp) ?h1 #[.slice (some (A0.add ((N - s.ts.length) * 5))) s.ts.length (c0 - (N - s.ts.length)), .int .i64 (s.deep - 1), .int .i64 s.e, .int .i64 s.l, .int .i64 s.c] rfl ?_); (case hv => first | rfl | (go_simp; done) | (go_simp; rfl)); (case h1 => simp [Value.oneCell']); clear HS; intro w HS)
  go_end0
  exact ⟨rfl, HBACK.out _ _ HS⟩
set_option maxRecDepth 100000 in
set_option maxHeartbeats 4000000 in
theorem upu_d {u : FrameMode} {W0 w : World} {L : List Chunk} {g gb : Nat} {A0 : Addr} {c0 N : Nat} {s : PS} (h0 : 0 ≤ s.deep) (h1 : s.deep ≤ 200) (HS : Sat W0 w (psB g A0 c0 N s :: blk gb 66 #[.pointer (some ⟨g, 0, none⟩)] :: L)) :
    CallsD Tryd.prog 95 #[.pointer (some ⟨gb, 0, none⟩)] u w fun r u' w' => u' = u ∧ (r = .returned (.tuple #[]) ∧ Sat W0 w' (psB g A0 c0 N (upP s) :: blk gb 66 #[.pointer (some ⟨g, 0, none⟩)] :: L)) := by
  have hw := w64 (s.deep - 1) (by omega) (by omega)
  have HBACK := Aside0.mk (fun (w : World) (L2 : List Chunk) (HS : Sat W0 w (blk g 68 #[.slice (some (A0.add ((N - s.ts.length) * 5))) s.ts.length (c0 - (N - s.ts.length)), .int .i64 (s.deep - 1), .int .i64 s.e, .int .i64 s.l, .int .i64 s.c] :: L2)) => show Sat W0 w (psB g A0 c0 N (upP s) :: L2) from HS)
  clear h0 h1
  go_enter_d Tryd.func95, Tryd.ntmps95
  have cb := HS.cell 0 rfl
  have cb1 := HS.cell 1 rfl
  go_wp2_with ((with_reducible refine gate_store (t := 3) (p := 7) rfl ?_); go_must (refine ev_storeN HS 0 rfl rfl 1 3 (.tmp 7) (.tmp 5) rfl rfl rfl (.int .i64 (s.deep - 1)) ?hv [.int .i64 (s.deep - 1)] rfl (by kernel_rfl) (by simp) ?h1 #[.slice (some (A0.add ((N - s.ts.length) * 5))) s.ts.length (c0 - (N - s.ts.length)), .int .i64 (s.deep - 1), .int .i64 s.e, .int .i64 s.l, .int .i64 s.c] rfl ?_); (case hv => first | rfl | (go_simp; done) | (go_simp; rfl)); (case h1 => simp [Value.oneCell']); clear HS; intro w HS)
  go_end0
  exact ⟨rfl, HBACK.out _ _ HS⟩
theorem find_snoc0 (p : List UInt8 → Bool) (l : List (List UInt8)) (x : List UInt8) (h : l.find? p = none) : (l ++ [x]).find? p = if p x = true then some x else none := by
  rw [find_snoc, h]; rfl
set_option maxRecDepth 100000 in
set_option maxHeartbeats 4000000 in
theorem mark_calls {W0 w : World} {L : List Chunk} {g : Nat} {A0 : Addr} {c0 : Nat} {all : List S71} {s : PS} (h : POk all s) (l : List (List UInt8)) (hl : l.length ≤ 100) (hne : ∀ x ∈ l, x ≠ []) (A : Addr) (cl : Nat) (io : Nat) (hio : L[io]? = some (old W0)) (hA : StrsIn W0 A l) (HS : Sat W0 w (psB g A0 c0 all.length s :: tkR A0 c0 all :: L)) :
    Calls Tryd.prog 93 #[.pointer (some ⟨g, 0, none⟩), .slice (some A) l.length cl] w fun r w' => r = .returned (.string (bs (markOf s l))) ∧ Sat W0 w' (psB g A0 c0 all.length s :: tkR A0 c0 all :: L) := by
  have HNW := Aside0.mk (fun (w : World) (L : List Chunk) (HS : Sat W0 w (psB g A0 c0 all.length s :: tkR A0 c0 all :: L)) => now_calls h HS)
  have HOL := Aside0.mk (fun (w : World) (c1 c2 : Chunk) (HS : Sat W0 w (c1 :: c2 :: L)) => HS.old (io + 2) (by simpa using hio))
  have HA := Aside0.mk hA
  have HM := Aside0.mk (show markOf s l = (l.find? fun m => (nowP s).f0 == 4 && (nowP s).f1.data.toList == m).getD [] from rfl)
  have HLE := Aside0.mk (And.intro hl hne)
  obtain ⟨t, ht⟩ : ∃ t, t = nowP s := ⟨_, rfl⟩
  rw [← ht] at HNW HM
  unfold tkA at HNW
  obtain ⟨B, hB⟩ : ∃ B, B = psB g A0 c0 all.length s := ⟨_, rfl⟩
  rw [← hB] at HS HNW ⊢
  obtain ⟨mk, hmk⟩ : ∃ mk, mk = markOf s l := ⟨_, rfl⟩
  rw [← hmk] at HM ⊢
  clear ht hB h hA hio hl hne hmk
  go_enter Tryd.func93, Tryd.ntmps93
  go_wp2
  go_loopg [9] (l.length + 1) (fun kq v9 w' => ∃ (q : Nat), v9 = .int .i64 (q : Int) ∧ Aside0 (q ≤ l.length ∧ l.length + 1 ≤ kq + q) ∧ Aside0 ((l.take q).find? (fun m => t.f0 == 4 && t.f1.data.toList == m) = none) ∧ Aside0 (Sat W0 w' (B :: tkR A0 c0 all :: L)))
  case atStart => exact ⟨0, rfl, ⟨by omega, by omega⟩, ⟨rfl⟩, ⟨HS⟩⟩
  case round =>
    clear HS
    obtain ⟨q, rfl, HQ, HF, HS'⟩ := hrel
    have HS := HS'.out
    clear HS'
    cases gk with
    | zero => have := HQ.out; omega
    | succ k1 =>
      by_cases hq : q < l.length
      · obtain ⟨x, hx⟩ : ∃ z, l[q] = z := ⟨_, rfl⟩
        have hc := cell_below (HA.out q x (by rw [List.getElem?_eq_getElem hq, hx])) (HOL.out _ _ _ HS)
        have HN := Aside0.mk (show (l.take (q + 1)).find? (fun m => t.f0 == 4 && t.f1.data.toList == m) = if (t.f0 == 4 && t.f1.data.toList == x) = true then some x else none from by
          rw [List.take_succ_eq_append_getElem hq, hx]
          exact find_snoc0 _ _ _ HF.out)
        have HFN := Aside0.mk (fun (hp : (t.f0 == 4 && t.f1.data.toList == x) = true) => show mk = x from by
          have e := HN.out
          rw [if_pos hp] at e
          have e2 : l.find? (fun m => t.f0 == 4 && t.f1.data.toList == m) = some x := by
            rw [← List.take_append_drop (q + 1) l, List.find?_append, e]; rfl
          rw [HM.out, e2]; rfl)
        have hwq : wrap64 ((q : Int) + 1) = (q : Int) + 1 := w64 _ (by omega) (by have := HLE.out.1; omega)
        obtain ⟨QI, hQI⟩ : ∃ z : Int, z = (q : Int) := ⟨_, rfl⟩
        have HQI := Aside0.mk (show QI = (q : Int) from hQI)
        have hqt : QI.toNat = q := by omega
        rw [← hqt] at hc
        rw [← hQI] at hwq ⊢
        have c1_ : decide (QI < (l.length : Int)) = true := decide_eq_true (by omega)
        have r1 : (0 ≤ QI) = True := eq_true (by omega)
        have r2 : (QI < (l.length : Int)) = True := eq_true (by omega)
        have r3 : (q < l.length) = True := eq_true hq
        have e2 : (bs x).toList = x := by simp [bs]
        have e3 := ba_list t.f1
        have HQL := Aside0.mk hq
        clear hx hQI hqt hq
        cases h4 : (t.f0 == 4) with
        | false =>
          rw [h4] at HN HFN
          go_wp2_with (go_at_call 22; refine (HNW.out _ _ HS).mono ?_; rintro e_ w_ ⟨rfl, HS_⟩; clear HS; have HS := HS_; clear HS_)
          go_roundg k1
          case measure => exact Nat.lt_succ_self _
          case rel => exact ⟨q + 1, by first | (rw [hwq, HQI.out]; rfl) | (rw [HQI.out]; rfl), ⟨by have := HQL.out; omega, by have := HQ.out; omega⟩, ⟨by rw [h4]; simp⟩, ⟨HS⟩⟩
        | true =>
          rw [h4] at HN HFN
          cases hp : (t.f1.data.toList == x) with
          | false =>
            rw [hp] at HN HFN
            go_wp2_with ((try (refine gate_guard (by rfl) ?_; dsimp only)); go_at_call 22; refine (HNW.out _ _ HS).mono ?_; rintro e_ w_ ⟨rfl, HS_⟩; clear HS; have HS := HS_; clear HS_)
            go_roundg k1
            case measure => exact Nat.lt_succ_self _
            case rel => exact ⟨q + 1, by first | (rw [hwq, HQI.out]; rfl) | (rw [HQI.out]; rfl), ⟨by have := HQL.out; omega, by have := HQ.out; omega⟩, ⟨by have e := HN.out; rw [h4]; simpa using e⟩, ⟨HS⟩⟩
          | true =>
            rw [hp] at HN HFN
            go_wp2_with ((try (refine gate_guard (by rfl) ?_; dsimp only)); go_at_call 22; refine (HNW.out _ _ HS).mono ?_; rintro e_ w_ ⟨rfl, HS_⟩; clear HS; have HS := HS_; clear HS_)
            go_ret
            exact ⟨by rw [HFN.out rfl]; rfl, HS⟩
      · have hqn : q = l.length := by have := HQ.out; omega
        subst hqn
        have c1_ : decide ((l.length : Int) < (l.length : Int)) = false := decide_eq_false (by omega)
        have HMM := Aside0.mk (show mk = [] from by
          have e := HF.out
          rw [List.take_length] at e
          rw [HM.out, e]; rfl)
        clear hq
        go_wp2
        go_ret
        exact ⟨by rw [HMM.out]; rfl, HS⟩
end Go.Proofs.YtenkganofobioaaDoor.B
