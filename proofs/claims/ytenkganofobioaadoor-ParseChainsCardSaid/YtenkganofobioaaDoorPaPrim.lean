/- Parsing: the small steps. -/
import Derived.Test.YtenkganofobioaaDoorPaP
namespace Go.Proofs.YtenkganofobioaaDoor.B
open Go.RowKit Go.Proofs.YtenkganofobioaaDoor.Mine Go.Proofs.YtenkganofobioaaDoor.Sep Go.Proofs.YtenkganofobioaaDoorW.PrintWords Go.Proofs.YtenkganofobioaaDoorW.PrintLast Go.Proofs.YtenkganofobioaaDoorW.PrintMore
set_option linter.unusedVariables false
set_option linter.unusedSimpArgs false
theorem rot3 {W0 w : World} {a b c : Chunk} {L : List Chunk} (HS : Sat W0 w (a :: b :: c :: L)) : Sat W0 w (b :: c :: a :: L) := ((HS.front 1 rfl).front 2 rfl).swap
theorem tor3 {W0 w : World} {a b c : Chunk} {L : List Chunk} (HS : Sat W0 w (b :: c :: a :: L)) : Sat W0 w (a :: b :: c :: L) := HS.front 2 rfl
theorem add_add' (A : Addr) (m n : Nat) : (A.add m).add n = A.add (m + n) := by
  unfold Addr.add
  by_cases h1 : m = 0
  · subst h1; simp
  · by_cases h2 : n = 0
    · subst h2; simp
    · have h3 : m + n ≠ 0 := by omega
      simp [h1, h2, h3, Nat.add_assoc]
theorem ba_list (a : ByteArray) : a.toList = a.data.toList := by
  have key : ∀ l : List UInt8, (bs l).toList = l := fun l => by simp [bs]
  exact key a.data.toList
set_option maxRecDepth 100000 in
set_option maxHeartbeats 4000000 in
theorem bad_calls {W0 w : World} {L : List Chunk} {g : Nat} {A0 : Addr} {c0 : Nat} {all : List S71} {s : PS} (HS : Sat W0 w (psB g A0 c0 all.length s :: L)) :
    Calls Tryd.prog 21 #[.pointer (some ⟨g, 0, none⟩)] w fun r w' => r = .returned (.bool (badP s)) ∧ Sat W0 w' (psB g A0 c0 all.length s :: L) := by
  go_enter Tryd.func21, Tryd.ntmps21
  have cb := HS.cell 0 rfl
  go_wp2
  go_ret
  exact ⟨rfl, HS⟩
set_option maxRecDepth 100000 in
set_option maxHeartbeats 4000000 in
theorem now_calls {W0 w : World} {L : List Chunk} {g : Nat} {A0 : Addr} {c0 : Nat} {all : List S71} {s : PS} (h : POk all s) (HS : Sat W0 w (psB g A0 c0 all.length s :: tkR A0 c0 all :: L)) :
    Calls Tryd.prog 22 #[.pointer (some ⟨g, 0, none⟩)] w fun r w' => r = .returned (.agg (tkA (nowP s))) ∧ Sat W0 w' (psB g A0 c0 all.length s :: tkR A0 c0 all :: L) := by
  have HT := Aside0.mk (fun (w : World) (L : List Chunk) (HS : Sat W0 w L) (i : Nat) (hi : L[i]? = some (tkR A0 c0 all)) => (tok_at h HS i hi).2)
  have hlen := h.len.1
  unfold psB at HS ⊢
  obtain ⟨A, hA⟩ : ∃ A, A = A0.add ((all.length - s.ts.length) * 5) := ⟨_, rfl⟩
  obtain ⟨cp, hcp⟩ : ∃ A, A = c0 - (all.length - s.ts.length) := ⟨_, rfl⟩
  rw [← hA] at HT HS ⊢
  rw [← hcp] at HS ⊢
  clear hA hcp h
  obtain ⟨n, hn⟩ : ∃ n, n = s.ts.length := ⟨_, rfl⟩
  rw [← hn] at HT HS hlen ⊢
  have hn0 : (0 < n) = True := eq_true (by omega)
  clear hn
  obtain ⟨t, ht⟩ : ∃ t, t = nowP s := ⟨_, rfl⟩
  rw [← ht]
  have HTT := Aside0.mk ht
  clear ht
  go_enter Tryd.func22, Tryd.ntmps22
  have HN1 := Aside0.mk hlen
  clear hlen
  go_upto_region 1 with ((with_reducible refine gate_dst (N := 2) rfl ?_); go_must (refine ev_box HS rfl (N := 2) rfl (cs := #[.int .i64 0, .string ⟨#[]⟩, .int .i64 0, .int .i64 0, .int .i64 0]) (t := 71) ?hrun ?_); (case hrun => first | (go_simp; done) | (go_simp; rfl)); clear HS; intro g2 w HS)
  have cb := HS.cell 1 rfl
  obtain ⟨ad, e, f0, f1, f2, f3, f4⟩ := at_T71 (HT.out w _ HS 2 rfl) 0 (by omega) (by have := HN1.out; omega)
  obtain rfl : A = ad := by simpa using e
  clear e
  rw [show ((0 : Int).toNat * 5) = 0 from rfl, addr_zero] at f0 f1 f2 f3 f4
  change w.cell? _ = some (.int .i64 (nowP s).f0) at f0
  change w.cell? _ = some (.string (nowP s).f1) at f1
  change w.cell? _ = some (.int .i64 (nowP s).f2) at f2
  change w.cell? _ = some (.int .i64 (nowP s).f3.f0) at f3
  change w.cell? _ = some (.int .i64 (nowP s).f3.f1) at f4
  rw [← HTT.out] at f0 f1 f2 f3 f4
  go_wp2_with (((with_reducible refine gate_store (t := 71) (p := 2) rfl ?_); go_must (refine ev_store HS 0 rfl rfl 71 (.tmp 2) (.tmp 8) rfl rfl rfl [.int .i64 t.f0, .string t.f1, .int .i64 t.f2, .int .i64 t.f3.f0, .int .i64 t.f3.f1] ?hx (by kernel_rfl) (by rfl) ?h1 ?_); (case hx => first | rfl | (go_simp; done)); (case h1 => simp [Value.oneCell']); clear HS; intro w HS))
  refine ret_row HS 0 rfl (p := 2) rfl rfl _ Tryd.underlying71 rfl (by kernel_rfl) rfl ⟨rfl, HS.tail⟩
set_option maxRecDepth 100000 in
set_option maxHeartbeats 4000000 in
theorem is_calls {W0 w : World} {L : List Chunk} {g : Nat} {A0 : Addr} {c0 : Nat} {all : List S71} {s : PS} (h : POk all s) (HS : Sat W0 w (psB g A0 c0 all.length s :: tkR A0 c0 all :: L)) (x : ByteArray) :
    Calls Tryd.prog 43 #[.pointer (some ⟨g, 0, none⟩), .string x] w fun r w' => r = .returned (.bool (isP s x)) ∧ Sat W0 w' (psB g A0 c0 all.length s :: tkR A0 c0 all :: L) := by
  have HNW := Aside0.mk (fun (w : World) (L : List Chunk) (HS : Sat W0 w (psB g A0 c0 all.length s :: tkR A0 c0 all :: L)) => now_calls h HS)
  unfold isP
  obtain ⟨t, ht⟩ : ∃ t, t = nowP s := ⟨_, rfl⟩
  rw [← ht] at HNW ⊢
  clear ht h
  obtain ⟨B, hB⟩ : ∃ B, B = psB g A0 c0 all.length s := ⟨_, rfl⟩
  rw [← hB] at HS HNW ⊢
  clear hB
  go_enter Tryd.func43, Tryd.ntmps43
  go_upto_region 2 with (first | (go_at_call 22; refine (HNW.out _ _ HS).mono ?_; rintro e_ w_ ⟨rfl, HS_⟩; clear HS; have HS := HS_; clear HS_) | ((with_reducible refine gate_dst (N := 5) rfl ?_); go_must (refine ev_box HS rfl (N := 5) rfl (cs := #[.int .i64 0, .string ⟨#[]⟩, .int .i64 0, .int .i64 0, .int .i64 0]) (t := 71) ?hrun ?_); (case hrun => first | (go_simp; done) | (go_simp; rfl)); clear HS; intro g5 w HS) | ((with_reducible refine gate_store (t := 71) (p := 5) rfl ?_); go_must (refine ev_store HS 0 rfl rfl 71 (.tmp 5) (.tmp 7) rfl rfl rfl [.int .i64 t.f0, .string t.f1, .int .i64 t.f2, .int .i64 t.f3.f0, .int .i64 t.f3.f1] ?hx (by kernel_rfl) (by rfl) ?h1 ?_); (case hx => first | rfl | (go_simp; done)); (case h1 => simp [Value.oneCell']); clear HS; intro w HS))
  have cb := HS.cell 0 rfl
  cases h3 : (t.f0 == 3) <;> cases h4 : (t.f0 == 4) <;> cases hx : (t.f1.data.toList == x.data.toList)
  all_goals (go_wp2; go_ret; exact ⟨by simp only [ba_list] at *; simp [h3, h4, hx]; try simpa using hx, HS.tail⟩)
set_option maxRecDepth 100000 in
set_option maxHeartbeats 4000000 in
theorem skip_callsP {W0 w : World} {L : List Chunk} {g : Nat} {A0 : Addr} {c0 : Nat} {all : List S71} {s : PS} (h : POk all s) (HS : Sat W0 w (psB g A0 c0 all.length s :: tkR A0 c0 all :: L)) :
    Calls Tryd.prog 44 #[.pointer (some ⟨g, 0, none⟩)] w fun r w' => r = .returned (.agg (tkA (nowP s))) ∧ Sat W0 w' (psB g A0 c0 all.length (skipP s) :: tkR A0 c0 all :: L) := by
  have HNW := Aside0.mk (fun (w : World) (L : List Chunk) (HS : Sat W0 w (psB g A0 c0 all.length s :: tkR A0 c0 all :: L)) => now_calls h HS)
  have HSK := Aside0.mk (show skipP s = if (nowP s).f0 = 0 then s else { s with ts := s.ts.tail } from rfl)
  have hcap := Aside0.mk (tok_at h HS 1 rfl).1
  have H2 := Aside0.mk (fun h0 => h.two h0)
  have HL := Aside0.mk h.len
  obtain ⟨t, ht⟩ : ∃ t, t = nowP s := ⟨_, rfl⟩
  rw [← ht] at HNW HSK H2 ⊢
  obtain ⟨s1, hs1⟩ : ∃ s1, s1 = skipP s := ⟨_, rfl⟩
  rw [← hs1] at HSK ⊢
  clear ht hs1 h
  go_enter Tryd.func44, Tryd.ntmps44
  go_upto_region 2 with (first | ((with_reducible refine gate_dst (N := 2) rfl ?_); go_must (refine ev_box HS rfl (N := 2) rfl (cs := #[.int .i64 0, .string ⟨#[]⟩, .int .i64 0, .int .i64 0, .int .i64 0]) (t := 71) ?hrun ?_); (case hrun => first | (go_simp; done) | (go_simp; rfl)); clear HS; intro g2 w HS) | (go_at_call 22; refine (HNW.out _ _ (rot3 HS)).mono ?_; rintro e_ w_ ⟨rfl, HS_⟩; clear HS; have HS := tor3 HS_; clear HS_) | ((with_reducible refine gate_dst (N := 3) rfl ?_); go_must (refine ev_box HS rfl (N := 3) rfl (cs := #[.int .i64 0, .string ⟨#[]⟩, .int .i64 0, .int .i64 0, .int .i64 0]) (t := 71) ?hrun ?_); (case hrun => first | (go_simp; done) | (go_simp; rfl)); clear HS; intro g3 w HS) | ((with_reducible refine gate_store (t := 71) (p := 3) rfl ?_); go_must (refine ev_store HS 0 rfl rfl 71 (.tmp 3) (.tmp 5) rfl rfl rfl [.int .i64 t.f0, .string t.f1, .int .i64 t.f2, .int .i64 t.f3.f0, .int .i64 t.f3.f1] ?hx (by kernel_rfl) (by rfl) ?h1 ?_); (case hx => first | rfl | (go_simp; done)); (case h1 => simp [Value.oneCell']); clear HS; intro w HS))
  have cb := HS.cell 0 rfl
  by_cases h0 : t.f0 = 0
  · have e := HSK.out
    rw [if_pos h0] at e
    subst e
    have c1_ : (t.f0 == 0) = true := by rw [h0]; rfl
    clear h0
    go_wp2_with (first | ((with_reducible refine gate_load (ty := 71) (p := 3) rfl ?_); go_must (refine ev_load HS 0 rfl rfl 71 (.tmp 3) rfl (N := 17) rfl rfl _ Tryd.underlying71 rfl (by kernel_rfl) ?_)) | ((with_reducible refine gate_store (t := 71) (p := 2) rfl ?_); go_must (refine ev_store HS 1 rfl rfl 71 (.tmp 2) (.tmp 17) rfl rfl rfl [.int .i64 t.f0, .string t.f1, .int .i64 t.f2, .int .i64 t.f3.f0, .int .i64 t.f3.f1] ?hx (by kernel_rfl) (by rfl) ?h1 ?_); (case hx => first | rfl | (go_simp; done)); (case h1 => simp [Value.oneCell']); clear HS; intro w HS))
    refine ret_row HS 1 rfl (p := 2) rfl rfl _ Tryd.underlying71 rfl (by kernel_rfl) rfl ⟨rfl, HS.tail.tail⟩
  · have e := HSK.out
    rw [if_neg h0] at e
    subst e
    have c1_ : (t.f0 == 0) = false := beq_eq_false_iff_ne.2 h0
    have h2 := H2.out h0
    have hl := HL.out
    have hc := hcap.out
    have HE := Aside0.mk (show (A0.add ((all.length - s.ts.tail.length) * 5)) = (A0.add ((all.length - s.ts.length) * 5)).add (1 * 5) ∧ s.ts.tail.length = s.ts.length - 1 ∧ c0 - (all.length - s.ts.tail.length) = c0 - (all.length - s.ts.length) - 1 from by
      rw [List.length_tail]
      refine ⟨?_, rfl, by omega⟩
      rw [show (all.length - (s.ts.length - 1)) * 5 = (all.length - s.ts.length) * 5 + 5 by omega]
      rw [add_add'])
    clear h0
    replace HS : Sat W0 w (blk g3 71 #[.int .i64 t.f0, .string t.f1, .int .i64 t.f2, .int .i64 t.f3.f0, .int .i64 t.f3.f1] :: blk g2 71 #[.int .i64 0, .string ⟨#[]⟩, .int .i64 0, .int .i64 0, .int .i64 0] :: psB g A0 c0 all.length s :: tkR A0 c0 all :: L) := HS
    have HBACK := Aside0.mk (fun (w : World) (L2 : List Chunk) (HS : Sat W0 w (blk g 68 #[.slice (some ((A0.add ((all.length - s.ts.length) * 5)).add (1 * 5))) (s.ts.length - 1) (c0 - (all.length - s.ts.length) - 1), .int .i64 s.deep, .int .i64 s.e, .int .i64 s.l, .int .i64 s.c] :: L2)) => show Sat W0 w (psB g A0 c0 all.length { s with ts := s.ts.tail } :: L2) from by
      unfold psB
      simp only
      rw [HE.out.1, HE.out.2.2, HE.out.2.1]
      exact HS)
    clear HE
    unfold psB at HS
    have hcp : 2 ≤ c0 - (all.length - s.ts.length) := by omega
    have hcn : s.ts.length ≤ c0 - (all.length - s.ts.length) := by omega
    obtain ⟨A, hA⟩ : ∃ A, A = A0.add ((all.length - s.ts.length) * 5) := ⟨_, rfl⟩
    obtain ⟨cp, hcp_⟩ : ∃ A, A = c0 - (all.length - s.ts.length) := ⟨_, rfl⟩
    obtain ⟨n, hn⟩ : ∃ A, A = s.ts.length := ⟨_, rfl⟩
    rw [← hA, ← hcp_, ← hn] at HS HBACK
    rw [← hcp_] at hcp hcn
    rw [← hn] at h2 hcn
    clear hA hcp_ hn hl hc HL hcap H2 HSK HNW
    clear cb
    have cb := HS.cell 0 rfl
    have cb2 := HS.cell 2 rfl
    have hn1 : (1 ≤ n) = True := eq_true (by omega)
    have hn2 : (n ≤ cp) = True := eq_true hcn
    have hn3 : (1 ≤ cp) = True := eq_true (by omega)
    have hn4 : (cp = 1) = False := eq_false (by omega)
    have hn5 : ((n : Int) < 1) = False := eq_false (by omega)
    have hn6 : (1 ≤ (n : Int)) = True := eq_true (by omega)
    have HC2 := Aside0.mk hcp
    clear hcp hcn h2
    go_upto_region 4 with ((with_reducible refine gate_store (t := 63) (p := 16) rfl ?_); go_must (refine ev_storeN HS 2 rfl rfl 0 63 (.tmp 16) (.tmp 14) rfl rfl rfl (.slice (some (A.add (1 * 5))) (n - 1) (cp - 1)) ?hv [.slice (some (A.add (1 * 5))) (n - 1) (cp - 1)] rfl (by kernel_rfl) (by simp) ?h1 #[.slice (some (A.add (1 * 5))) (n - 1) (cp - 1), .int .i64 s.deep, .int .i64 s.e, .int .i64 s.l, .int .i64 s.c] rfl ?_); (case hv => first | rfl | (go_simp; done)); (case h1 => simp [Value.oneCell']); clear HS; intro w HS)
    clear cb cb2
    go_wp2_with (first | ((with_reducible refine gate_load (ty := 71) (p := 3) rfl ?_); go_must (refine ev_load HS 0 rfl rfl 71 (.tmp 3) rfl (N := 17) rfl rfl _ Tryd.underlying71 rfl (by kernel_rfl) ?_)) | ((with_reducible refine gate_store (t := 71) (p := 2) rfl ?_); go_must (refine ev_store HS 1 rfl rfl 71 (.tmp 2) (.tmp 17) rfl rfl rfl [.int .i64 t.f0, .string t.f1, .int .i64 t.f2, .int .i64 t.f3.f0, .int .i64 t.f3.f1] ?hx (by kernel_rfl) (by rfl) ?h1 ?_); (case hx => first | rfl | (go_simp; done)); (case h1 => simp [Value.oneCell']); clear HS; intro w HS))
    refine ret_row HS 1 rfl (p := 2) rfl rfl _ Tryd.underlying71 rfl (by kernel_rfl) rfl ⟨rfl, HBACK.out _ _ HS.tail.tail⟩
end Go.Proofs.YtenkganofobioaaDoor.B
