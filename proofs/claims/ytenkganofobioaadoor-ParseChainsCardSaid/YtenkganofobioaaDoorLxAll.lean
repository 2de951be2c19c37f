/- Lexing: all tokens. -/
import Derived.Test.YtenkganofobioaaDoorLxN
import Derived.Test.YtenkganofobioaaDoorSep2
namespace Go.Proofs.YtenkganofobioaaDoor.B
open Go.RowKit Go.Proofs.YtenkganofobioaaDoor.Mine Go.Proofs.YtenkganofobioaaDoor.Sep Go.Proofs.YtenkganofobioaaDoorW.PrintWords Go.Proofs.YtenkganofobioaaDoorW.PrintLast Go.Proofs.YtenkganofobioaaDoorW.PrintMore
set_option linter.unusedVariables false
set_option linter.unusedSimpArgs false
theorem results_tc {P : Program} {fn : Func} {p u : Tmp} {ty : TypeId} (h : fn.results = #[.tmp u, .cell p ty]) (tmps : Array Value) (w : World) (g : Nat) (t : TypeId) (cs : Array Value) (fr : Nat × Nat) (d : TypeDesc)
    (hp : tmps.getD p undef = .pointer (some ⟨g, 0, none⟩)) (hg : w.heap[g]? = some (.cells cs t fr))
    (hu : P.underlying ty = some d) (hd : (match d with | .struct _ | .array _ _ => true | _ => false) = true) (hi : (P.info? ty).map (·.size) = some cs.size) :
    (results fn tmps).run P w = .ok (.tuple #[tmps.getD u undef, .agg cs]) w := by
  have hp' : tmps[p]?.getD undef = .pointer (some ⟨g, 0, none⟩) := by simpa using hp
  simp [results, h, hp', asAddr, run_loadVar_row w g t ty cs fr d hg hu hd hi]
/-- Tokens ahead of what is found. -/
def preT (ts : List S71) : Option (Sum (List S71) (Int × Int × Int)) → Option (Sum (List S71) (Int × Int × Int))
  | none => none
  | some (.inr e) => some (.inr e)
  | some (.inl us) => some (.inl (ts ++ us))
theorem preT_nil (x : Option (Sum (List S71) (Int × Int × Int))) : preT [] x = x := by
  cases x with
  | none => rfl
  | some y => cases y <;> rfl
theorem preT_app (a b : List S71) (x : Option (Sum (List S71) (Int × Int × Int))) : preT a (preT b x) = preT (a ++ b) x := by
  cases x with
  | none => rfl
  | some y => cases y with
    | inl u => simp [preT]
    | inr e => rfl
theorem allP_succ (k : Nat) (r : List UInt8) (l c : Int) : allP (k + 1) r l c = (match nextP r l c with
    | .err e n => some (.inr (e, posA l c (r.take n)))
    | .tok t n => if t.f0 = 0 then some (.inl [t]) else preT [t] (allP k (r.drop n) (posA l c (r.take n)).1 (posA l c (r.take n)).2)) := by
  rw [allP]
  cases nextP r l c with
  | err e n => rfl
  | tok t n =>
    simp only
    split
    · rfl
    · cases allP k (r.drop n) (posA l c (r.take n)).1 (posA l c (r.take n)).2 with
      | none => rfl
      | some y => cases y <;> rfl
theorem run_pos {nm : Bool} {x : UInt8} {r : List UInt8} (h : (isD x || (nm && isL x)) = true) : 0 < runN nm (x :: r) := by
  rw [runN, if_pos h]; omega
theorem next_pos {r : List UInt8} {l c : Int} {t : S71} {n : Nat} (h : nextP r l c = .tok t n) (ht : t.f0 ≠ 0) : 0 < n := by
  unfold nextP nxtP at h
  split at h
  · simp only [Nx.tok.injEq] at h
    exact absurd (by rw [← h.1]) ht
  · rename_i x r1 hx
    rw [hx] at h
    split at h
    · rename_i hl
      simp only [Nx.tok.injEq] at h
      have := run_pos (nm := true) (x := x) (r := r1) (by simp [hl])
      omega
    · split at h
      · rename_i hd
        split at h
        · cases h
        · simp only [Nx.tok.injEq] at h
          have := run_pos (nm := false) (x := x) (r := r1) (by simp [hd])
          omega
      · split at h
        · cases h
        · rename_i hm
          simp only [Nx.tok.injEq] at h
          have := List.length_pos_iff.2 hm
          omega
theorem next_err {r : List UInt8} {l c : Int} {e : Int} {n : Nat} (h : nextP r l c = .err e n) : e ≠ 0 := by
  unfold nextP nxtP at h
  split at h
  · cases h
  · split at h
    · cases h
    · split at h
      · split at h
        · simp only [Nx.err.injEq] at h; omega
        · cases h
      · split at h
        · simp only [Nx.err.injEq] at h; omega
        · cases h
theorem info71 : (Tryd.prog.info? 71).map (fun i => (i.zero, i.size, i.bytes)) = some (some (.agg #[.int .i64 0, .string ⟨#[]⟩, .int .i64 0, .int .i64 0, .int .i64 0]), 5, 48) := by kernel_rfl
theorem reps_tok {w : World} {base : Nat} {okp : Nat → Prop} (t : S71) : Reps (k71.M w base okp) 5 [t] [.int .i64 t.f0, .string t.f1, .int .i64 t.f2, .int .i64 t.f3.f0, .int .i64 t.f3.f1] := (Reps.none _ _).snoc (k71_mkM w base okp t) rfl
theorem tokKM {w : World} {x : S71} {cs : List Value} (h : k71.K w x cs) : k71.M w 0 (fun _ => False) x cs := by
  rw [k71_open h]; exact k71_mkM w 0 _ x
/-- What All leaves behind. -/
def AllR (W0 : World) (L : List Chunk) (s : List UInt8) (r : Ending) (w' : World) : Prop :=
  if 65536 < s.length then r = .returned (.tuple #[.slice none 0 0, .agg #[.int .i64 14, .int .i64 1, .int .i64 1]]) ∧ Sat W0 w' L
  else match allP (s.length + 1) s 1 1 with
    | none => False
    | some (.inr e) => r = .returned (.tuple #[.slice none 0 0, .agg #[.int .i64 e.1, .int .i64 e.2.1, .int .i64 e.2.2]]) ∧ Sat W0 w' L
    | some (.inl ts) => ∃ v, r = .returned (.tuple #[v, .agg #[.int .i64 0, .int .i64 0, .int .i64 0]]) ∧ ts.length ≤ 65537 ∧ Sat W0 w' (row k71 71 v ts :: L)
set_option maxRecDepth 100000 in
set_option maxHeartbeats 8000000 in
theorem all_calls {W0 w : World} {L : List Chunk} {s : List UInt8} (hG : GL W0) (io : Nat) (hio : L[io]? = some (old W0)) (HS : Sat W0 w L) :
    Calls Tryd.prog 20 #[.string (bs s)] w fun r w' => AllR W0 L s r w' := by
  have HG := Aside0.mk hG
  have HIO := Aside0.mk hio
  clear hG hio
  have hsz := bs_size s
  go_enter Tryd.func20, Tryd.ntmps20
  go_upto_region 1 with ((with_reducible refine gate_dst (N := 3) rfl ?_); go_must (refine ev_box HS rfl (N := 3) rfl (cs := #[.int .i64 0, .int .i64 0, .int .i64 0]) (t := 34) ?hrun ?_); (case hrun => first | (go_simp; done) | (go_simp; rfl)); clear HS; intro g3 w HS)
  by_cases hlong : 65536 < s.length
  · have c1_ : (65536 < ((bs s).size : Int)) = True := eq_true (by omega)
    have c1'_ : (65536 < (s.length : Int)) = True := eq_true (by omega)
    have HLO := Aside0.mk hlong
    clear hlong
    go_wp2_with (((with_reducible refine gate_store (t := 34) (p := 3) rfl ?_); go_must (refine ev_store HS 0 rfl rfl 34 (.tmp 3) (.tmp 12) rfl rfl rfl [.int .i64 14, .int .i64 1, .int .i64 1] ?hx (by kernel_rfl) (by rfl) ?h1 ?_); (case hx => first | rfl | (go_simp; done)); (case h1 => simp [Value.oneCell']); clear HS; intro w HS))
    refine bodyPost_ret (results_tc (p := 3) (u := 2) rfl _ w g3 34 _ (0, 0) _ rfl (HS.blk 0 rfl) Tryd.underlying34 rfl (by kernel_rfl)) rfl ?_
    unfold AllR
    rw [if_pos HLO.out]
    exact ⟨rfl, HS.tail⟩
  · have c1_ : (65536 < ((bs s).size : Int)) = False := eq_false (by omega)
    have c1'_ : (65536 < (s.length : Int)) = False := eq_false (by omega)
    have HLO := Aside0.mk hlong
    have HGOAL := Aside0.mk (show ∀ (r : Ending) (w' : World), (match allP (s.length + 1) s 1 1 with
        | none => False
        | some (.inr e) => r = .returned (.tuple #[.slice none 0 0, .agg #[.int .i64 e.1, .int .i64 e.2.1, .int .i64 e.2.2]]) ∧ Sat W0 w' L
        | some (.inl ts) => ∃ v, r = .returned (.tuple #[v, .agg #[.int .i64 0, .int .i64 0, .int .i64 0]]) ∧ ts.length ≤ 65537 ∧ Sat W0 w' (row k71 71 v ts :: L)) → AllR W0 L s r w' from fun r w' h => by
      unfold AllR
      rw [if_neg hlong]
      exact h)
    clear hlong
    go_upto_region 3 with (fail)
    go_upto_region 4 with ((with_reducible refine gate_dst (N := 16) rfl ?_); go_must (refine ev_box HS rfl (N := 16) rfl (cs := #[.string (bs s), .int .i64 0, .int .i64 1, .int .i64 1]) (t := 104) ?hrun ?_); (case hrun => first | (go_simp; done) | (go_simp; rfl)); clear HS; intro g16 w HS)
    have HS := HS.nil k71 71
    clear c1_ c1'_ hsz
    go_wp2
    go_loopg [5] (s.length + 2) (fun kq v5 w' => ∃ (i K : Nat) (l c : Int) (ts : List S71), Aside0 (LxOk s i l c ∧ ts.length ≤ i ∧ s.length + 2 ≤ kq + i ∧ s.length < K + i) ∧ Aside0 (allP (s.length + 1) s 1 1 = preT ts (allP K (s.drop i) l c)) ∧ Aside0 (Sat W0 w' (row k71 71 v5 ts :: lxB g16 s (i : Int) l c :: blk g3 34 #[.int .i64 0, .int .i64 0, .int .i64 0] :: L)))
    case atStart => exact ⟨0, s.length + 1, 1, 1, [], ⟨⟨by have := HLO.out; omega, by omega, by omega, by omega, by omega, by omega⟩, by simp, by omega, by omega⟩, ⟨by rw [preT_nil]; rfl⟩, ⟨HS⟩⟩
    case round =>
      clear HS
      obtain ⟨i, K, l, c, ts, HI, HE, HS'⟩ := hrel
      have HS := HS'.out
      clear HS'
      obtain ⟨K1, hfu⟩ : ∃ K1, K = K1 + 1 := ⟨K - 1, by have := HI.out.1.le; have := HI.out; omega⟩
      subst hfu
      have HEE := Aside0.mk (show allP (s.length + 1) s 1 1 = preT ts (match nextP (s.drop i) l c with
          | .err e n => some (.inr (e, posA l c ((s.drop i).take n)))
          | .tok t n => if t.f0 = 0 then some (.inl [t]) else preT [t] (allP K1 ((s.drop i).drop n) (posA l c ((s.drop i).take n)).1 (posA l c ((s.drop i).take n)).2)) from by rw [HE.out, allP_succ])
      clear HE
      cases gk with
      | zero => have := HI.out; have := HI.out.1.le; omega
      | succ k1 =>
        cases hnx : nextP (s.drop i) l c with
        | err e n =>
          rw [hnx] at HEE
          obtain ⟨PL, hPL⟩ : ∃ z, z = (posA l c ((s.drop i).take n)).1 := ⟨_, rfl⟩
          obtain ⟨PC, hPC⟩ : ∃ z, z = (posA l c ((s.drop i).take n)).2 := ⟨_, rfl⟩
          have HEN := Aside0.mk (show allP (s.length + 1) s 1 1 = some (.inr (e, PL, PC)) from by rw [HEE.out, hPL, hPC]; rfl)
          have HNE := Aside0.mk (fun (w : World) (v : Value) (HS : Sat W0 w (lxB g16 s (i : Int) l c :: row k71 71 v ts :: blk g3 34 #[.int .i64 0, .int .i64 0, .int .i64 0] :: L)) => show Calls Tryd.prog 42 #[.pointer (some ⟨g16, 0, none⟩)] w (fun r w' => r = .returned (.tuple #[.agg #[.int .i64 0, .string ⟨#[]⟩, .int .i64 0, .int .i64 0, .int .i64 0], .int .i64 e]) ∧ Sat W0 w' (lxB g16 s ((i + n : Nat) : Int) PL PC :: row k71 71 v ts :: blk g3 34 #[.int .i64 0, .int .i64 0, .int .i64 0] :: L)) from by
            refine (next_calls HG.out (io + 2) (by simpa using HIO.out) HI.out.1 HS).mono ?_
            intro r w' h
            unfold NextR at h
            rw [hnx] at h
            rw [hPL, hPC]
            exact ⟨h.1, h.2.2⟩)
          have HEN0 := Aside0.mk (show e ≠ 0 from next_err hnx)
          clear hnx HEE hPL hPC
          obtain ⟨IN, hIN⟩ : ∃ z : Int, z = ((i + n : Nat) : Int) := ⟨_, rfl⟩
          rw [← hIN] at HNE
          clear hIN
          have c2_ : (e == 0) = false := beq_eq_false_iff_ne.2 HEN0.out
          go_upto_region 6 with (first | (go_at_call 42; refine (HNE.out _ _ HS.swap).mono ?_; rintro e_ w_ ⟨rfl, HS_⟩; clear HS; have HS := HS_; clear HS_) | ((with_reducible refine gate_dst (N := 6) rfl ?_); go_must (refine ev_box HS rfl (N := 6) rfl (cs := #[.int .i64 0, .string ⟨#[]⟩, .int .i64 0, .int .i64 0, .int .i64 0]) (t := 71) ?hrun ?_); (case hrun => first | (go_simp; done) | (go_simp; rfl)); clear HS; intro g6 w HS) | ((with_reducible refine gate_store (t := 71) (p := 6) rfl ?_); go_must (refine ev_store HS 0 rfl rfl 71 (.tmp 6) (.tmp 20) rfl rfl rfl [.int .i64 0, .string ⟨#[]⟩, .int .i64 0, .int .i64 0, .int .i64 0] ?hx (by kernel_rfl) (by rfl) ?h1 ?_); (case hx => first | rfl | (go_simp; done)); (case h1 => simp [Value.oneCell']); clear HS; intro w HS))
          have cb := HS.cell 1 rfl
          go_upto_region 7 with (fail)
          refine start_ (n := 8) (S := fun w' => ∃ L', Sat W0 w' (lxB g16 s IN PL PC :: L')) (ds := []) #[false, false, false, false, false, false, false, false] (by kernel_rfl) rfl rfl ⟨_, HS.drew.front 1 rfl⟩ (fun hHeld => ?_)
          replace HS := HS.drew
          generalize World.drew w = w at HS hHeld ⊢
          refine pure_ (i := 0) (N := some 24) (v := ?_) (a' := ?_) #[true, false, false, false, false, false, false, false] rfl rfl (by kernel_rfl) (fun _ _ _ h => h) (Or.inl ⟨by rfl, ?_⟩) ?_ ?_
          rotate_left
          · intro w'
            go_simp
            with_reducible rfl
          rotate_left
          · (try simp only [Act.put, List.setIfInBounds_toArray, List.set_cons_zero, List.set_cons_succ, i64_w, i32_w])
            rfl
          refine pure_ (i := 1) (N := some 25) (v := ?_) (a' := ?_) #[true, true, false, false, false, false, false, false] rfl rfl (by kernel_rfl) (fun _ _ _ h => h) (Or.inl ⟨by rfl, ?_⟩) ?_ ?_
          rotate_left
          · intro w'
            go_simp
            with_reducible rfl
          rotate_left
          · (try simp only [Act.put, List.setIfInBounds_toArray, List.set_cons_zero, List.set_cons_succ, i64_w, i32_w])
            rfl
          refine pure_ (i := 2) (N := some 26) (v := ?_) (a' := ?_) #[true, true, true, false, false, false, false, false] rfl rfl (by kernel_rfl) (fun _ _ _ h => h) (Or.inl ⟨by rfl, ?_⟩) ?_ ?_
          rotate_left
          · intro w'
            go_simp
            with_reducible rfl
          rotate_left
          · (try simp only [Act.put, List.setIfInBounds_toArray, List.set_cons_zero, List.set_cons_succ, i64_w, i32_w])
            rfl
          refine pure_ (i := 3) (N := some 27) (v := ?_) (a' := ?_) #[true, true, true, true, false, false, false, false] rfl rfl (by kernel_rfl) (fun _ _ _ h => h) (Or.inl ⟨by rfl, ?_⟩) ?_ ?_
          rotate_left
          · intro w'
            go_simp
            with_reducible rfl
          rotate_left
          · (try simp only [Act.put, List.setIfInBounds_toArray, List.set_cons_zero, List.set_cons_succ, i64_w, i32_w])
            rfl
          refine take_ (i := 4) (N := some 28) (v := ?_) (a' := ?_) #[true, true, true, true, true, false, false, false] rfl rfl (by kernel_rfl) (fun _ _ _ h => h) (Or.inl ⟨by rfl, ?_⟩) hHeld ?_ ?_
          rotate_left
          · rintro w' hS
            obtain ⟨L', hS⟩ := hS
            have cb := hS.cell 0 rfl
            go_simp
            with_reducible rfl
          rotate_left
          · (try simp only [Act.put, List.setIfInBounds_toArray, List.set_cons_zero, List.set_cons_succ, i64_w, i32_w])
            rfl
          refine pure_ (i := 5) (N := some 29) (v := ?_) (a' := ?_) #[true, true, true, true, true, true, false, false] rfl rfl (by kernel_rfl) (fun _ _ _ h => h) (Or.inl ⟨by rfl, ?_⟩) ?_ ?_
          rotate_left
          · intro w'
            go_simp
            with_reducible rfl
          rotate_left
          · (try simp only [Act.put, List.setIfInBounds_toArray, List.set_cons_zero, List.set_cons_succ, i64_w, i32_w])
            rfl
          refine pure_ (i := 6) (N := some 2) (v := ?_) (a' := ?_) #[true, true, true, true, true, true, true, false] rfl rfl (by kernel_rfl) (fun _ _ _ h => h) (Or.inl ⟨by rfl, ?_⟩) ?_ ?_
          rotate_left
          · intro w'
            go_simp
            with_reducible rfl
          rotate_left
          · (try simp only [Act.put, List.setIfInBounds_toArray, List.set_cons_zero, List.set_cons_succ, i64_w, i32_w])
            rfl
          refine one_ (i := 7) (N := none) #[true, true, true, true, true, true, true, true] rfl rfl (by kernel_rfl) (by decide) (fun K hK => ?_)
          refine ev_store_step HS 3 rfl (by rfl) 34 (.tmp 3) (.tmp 29) rfl rfl rfl [.int .i64 e, .int .i64 PL, .int .i64 PC] (by rfl) (by kernel_rfl) rfl (by simp [Value.oneCell']) ?_
          clear HS
          intro w HS
          refine hK.out _ _ ⟨_, HS.front 1 rfl⟩ (fun hHeld => ?_)
          clear hK K
          refine done_ (by kernel_rfl) ?_
          clear hHeld
          clear cb
          go_wp2
          refine bodyPost_ret (results_tc (p := 3) (u := 2) rfl _ w g3 34 _ (0, 0) _ rfl (HS.blk 3 rfl) Tryd.underlying34 rfl (by kernel_rfl)) rfl ?_
          refine HGOAL.out _ _ ?_
          rw [HEN.out]
          exact ⟨rfl, HS.tail.tail.tail.tail⟩
        | tok t n =>
          rw [hnx] at HEE
          have HNE := Aside0.mk (fun (w : World) (v : Value) (HS : Sat W0 w (lxB g16 s (i : Int) l c :: row k71 71 v ts :: blk g3 34 #[.int .i64 0, .int .i64 0, .int .i64 0] :: L)) => show Calls Tryd.prog 42 #[.pointer (some ⟨g16, 0, none⟩)] w (fun r w' => r = .returned (.tuple #[.agg (tkA t), .int .i64 0]) ∧ Aside0 (i + n ≤ s.length) ∧ Sat W0 w' (lxB g16 s ((i + n : Nat) : Int) (posA l c ((s.drop i).take n)).1 (posA l c ((s.drop i).take n)).2 :: row k71 71 v ts :: blk g3 34 #[.int .i64 0, .int .i64 0, .int .i64 0] :: L)) from by
            refine (next_calls HG.out (io + 2) (by simpa using HIO.out) HI.out.1 HS).mono ?_
            intro r w' h
            unfold NextR at h
            rw [hnx] at h
            exact ⟨h.1, ⟨h.2.1⟩, h.2.2⟩)
          have HNP := Aside0.mk (fun h => next_pos hnx h)
          have HEE2 := Aside0.mk (show allP (s.length + 1) s 1 1 = preT ts (if t.f0 = 0 then some (.inl [t]) else preT [t] (allP K1 ((s.drop i).drop n) (posA l c ((s.drop i).take n)).1 (posA l c ((s.drop i).take n)).2)) from HEE.out)
          clear hnx HEE
          go_upto_region 6 with (first | (go_at_call 42; refine (HNE.out _ _ HS.swap).mono ?_; rintro e_ w_ ⟨rfl, HIN, HS_⟩; clear HS; have HS := HS_; clear HS_) | ((with_reducible refine gate_dst (N := 6) rfl ?_); go_must (refine ev_box HS rfl (N := 6) rfl (cs := #[.int .i64 0, .string ⟨#[]⟩, .int .i64 0, .int .i64 0, .int .i64 0]) (t := 71) ?hrun ?_); (case hrun => first | (go_simp; done) | (go_simp; rfl)); clear HS; intro g6 w HS) | ((with_reducible refine gate_store (t := 71) (p := 6) rfl ?_); go_must (refine ev_store HS 0 rfl rfl 71 (.tmp 6) (.tmp 20) rfl rfl rfl [.int .i64 t.f0, .string t.f1, .int .i64 t.f2, .int .i64 t.f3.f0, .int .i64 t.f3.f1] ?hx (by kernel_rfl) (by rfl) ?h1 ?_); (case hx => first | rfl | (go_simp; done)); (case h1 => simp [Value.oneCell']); clear HS; intro w HS))
          go_upto_region 8 with (fail)
          have hLE := Aside0.mk (show (ts.length + 1) * 48 ≤ 140737488355328 from by have := HI.out.2.1; have := HI.out.1.le; have := HLO.out; omega)
          go_upto_region 9 with (first | ((with_reducible refine gate_load (ty := 71) (p := 6) rfl ?_); go_must (refine ev_load HS 0 rfl rfl 71 (.tmp 6) rfl (N := 31) rfl rfl _ Tryd.underlying71 rfl (by kernel_rfl) ?_)) | ((with_reducible refine gate_dst (N := 32) rfl ?_); go_must (refine ev_lit k71 (e := 71) HS rfl (N := 32) rfl (xs := [t]) (inner := [.int .i64 t.f0, .string t.f1, .int .i64 t.f2, .int .i64 t.f3.f0, .int .i64 t.f3.f1]) ?hrun (reps_tok t) (by first | decide | simp) ?_); (case hrun => first | (go_simp; done) | (go_simp; rfl)); clear HS; intro g32 w HS) | ((with_reducible refine gate_builtin (b := .append) (xs := #[.tmp 30, .tmp 32]) rfl ?_); go_must (refine ev_append k71 HS 3 (.tmp 30) (.tmp 32) 63 71 (.agg #[.int .i64 0, .string ⟨#[]⟩, .int .i64 0, .int .i64 0, .int .i64 0]) 48 rfl (HS.C 0 rfl) (fun _ _ h => tokKM h) rfl rfl rfl rfl Tryd.underlying63 info71 rfl (by show 0 < 5; decide) (by omega) hLE.out ?_); clear HS; intro v33 w HS))
          have cb := HS.cell 1 rfl
          by_cases h0 : t.f0 = 0
          · have c2_ : (t.f0 == 0) = true := by rw [h0]; rfl
            have HH := Aside0.mk h0
            clear h0
            go_wp2_with (((with_reducible refine gate_store (t := 34) (p := 3) rfl ?_); go_must (refine ev_store HS 4 rfl rfl 34 (.tmp 3) (.tmp 38) rfl rfl rfl [.int .i64 0, .int .i64 0, .int .i64 0] ?hx (by kernel_rfl) (by rfl) ?h1 ?_); (case hx => first | rfl | (go_simp; done)); (case h1 => simp [Value.oneCell']); clear HS; intro w HS))
            refine bodyPost_ret (results_tc (p := 3) (u := 2) rfl _ w g3 34 _ (0, 0) _ rfl (HS.blk 4 rfl) Tryd.underlying34 rfl (by kernel_rfl)) rfl ?_
            refine HGOAL.out _ _ ?_
            rw [HEE2.out, if_pos HH.out]
            exact ⟨_, rfl, by have := HI.out.2.1; have := HI.out.1.le; have := HLO.out; rw [List.length_append, List.length_singleton]; omega, (HS.tail.tail.tail.swap.tail)⟩
          · have c2_ : (t.f0 == 0) = false := beq_eq_false_iff_ne.2 h0
            have HH := Aside0.mk h0
            clear h0
            go_wp2
            go_roundg k1
            case measure => exact Nat.lt_succ_self _
            case rel =>
              have hin := HIN.out
              have hnp := HNP.out HH.out
              have hii := HI.out
              have hle := HI.out.1.le
              refine ⟨i + n, K1, _, _, ts ++ [t], ⟨hii.1.go hin, by rw [List.length_append, List.length_singleton]; omega, by omega, by omega⟩, ⟨?_⟩, ⟨(HS.tail.tail).swap⟩⟩
              rw [HEE2.out, if_neg HH.out, preT_app, List.drop_drop]
end Go.Proofs.YtenkganofobioaaDoor.B
