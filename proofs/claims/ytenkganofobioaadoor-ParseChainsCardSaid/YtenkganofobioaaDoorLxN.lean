/- Lexing: the next token. -/
import Derived.Test.YtenkganofobioaaDoorLxVal
namespace Go.Proofs.YtenkganofobioaaDoor.B
open Go.RowKit Go.Proofs.YtenkganofobioaaDoor.Mine Go.Proofs.YtenkganofobioaaDoor.Sep Go.Proofs.YtenkganofobioaaDoorW.PrintWords Go.Proofs.YtenkganofobioaaDoorW.PrintLast Go.Proofs.YtenkganofobioaaDoorW.PrintMore
set_option linter.unusedVariables false
set_option linter.unusedSimpArgs false
section
variable {P : Program} {ops : Array Oper} {o : Oper} {a : Act} {Q : Exit → Act → World → Prop} {Kc : Act → World → Prop} {W0 w : World} {L : List Chunk}
theorem ev_storeN_step (HS : Sat W0 w L) (i : Nat) {g : Nat} {t : TypeId} {cs : Array Value} (hi : L[i]? = some (blk g t cs)) (hw : Region.wanted o (yielded ops a.tmps) = true) (k : Nat) (ty : TypeId) (p x : Operand) (ho : o.op = .store ty p x) (hd : o.dst = none) (hp : a.eval p = .pointer (some ⟨g, k, none⟩)) (X : Value) (hx : a.eval x = X) (vs : List Value) (hX : X.cells.toList = vs)
    (hin : (P.info? ty).map (·.size) = some vs.length) (hl : k + vs.length ≤ cs.size) (h1 : ∀ q ∈ vs, q.oneCell' = true) (cs' : Array Value) (he : setA cs k vs = cs')
    (h : ∀ w1, Sat W0 w1 (L.set i (blk g t cs')) → Kc a w1) : if Region.wanted o (yielded ops a.tmps) = true then Oper.wp P o a w Kc Q else Kc (a.put none undef) w := by
  rw [if_pos hw]
  have hr := run_store_run (P := P) (w := w) (o := k) ty X vs (HS.blk i hi) hX hin (by omega) h1
  unfold Oper.wp execOp
  simp only [ho, hp, hx, Sem.run_bind, Sem.run_pure, hr, Result.andThen_ok]
  show Kc (a.put o.dst undef) _
  rw [hd]
  refine h _ (HS.upd i hi fun s h => ?_)
  obtain ⟨h1, h2, h3, h4⟩ := but_setCells g vs k w
  refine ⟨⟨h1, h2, h3, by omega, fun j _ hs => Sep.heap_setCells g vs k w j (fun e => hs (by rw [e]; exact h.2))⟩, ?_, .inl h.2⟩
  rw [← he]
  exact blk_setCells g t vs k w cs h.1
end
theorem bs_sub {s : List UInt8} {j m : Nat} (h : j + m ≤ s.length) : (bs s).extract j (j + m) = bs ((s.drop j).take m) := by
  apply ByteArray.ext
  rw [ByteArray.data_extract]
  simp only [bs, List.extract_toArray]
  congr 1
  rw [List.extract_eq_take_drop, Nat.add_sub_cancel_left]
theorem mark_ne : ∀ m : List UInt8, m ∈ markList → m ≠ [] := by decide
def orF (fo : Option (List UInt8)) (b : Bool) (x : List UInt8) : Option (List UInt8) := match fo with
  | some m => some m
  | none => if b = true then some x else none
theorem find_snoc (p : List UInt8 → Bool) (l : List (List UInt8)) (x : List UInt8) : (l ++ [x]).find? p = orF (l.find? p) (p x) x := by
  rw [List.find?_append]
  cases l.find? p with
  | some m => rfl
  | none => simp only [List.find?_cons, List.find?_nil, orF]; cases p x <;> rfl
def mkK : Option (List UInt8) → Int
  | none => 0
  | some _ => 4
theorem results_ct {P : Program} {fn : Func} {p u : Tmp} {ty : TypeId} (h : fn.results = #[.cell p ty, .tmp u]) (tmps : Array Value) (w : World) (g : Nat) (t : TypeId) (cs : Array Value) (fr : Nat × Nat) (d : TypeDesc)
    (hp : tmps.getD p undef = .pointer (some ⟨g, 0, none⟩)) (hg : w.heap[g]? = some (.cells cs t fr))
    (hu : P.underlying ty = some d) (hd : (match d with | .struct _ | .array _ _ => true | _ => false) = true) (hi : (P.info? ty).map (·.size) = some cs.size) :
    (results fn tmps).run P w = .ok (.tuple #[.agg cs, tmps.getD u undef]) w := by
  have hp' : tmps[p]?.getD undef = .pointer (some ⟨g, 0, none⟩) := by simpa using hp
  simp [results, h, hp', asAddr, run_loadVar_row w g t ty cs fr d hg hu hd hi]
/-- A token as cells. -/
abbrev tkA (t : S71) : Array Value := #[.int .i64 t.f0, .string t.f1, .int .i64 t.f2, .int .i64 t.f3.f0, .int .i64 t.f3.f1]
/-- What next leaves behind. -/
def NextR (W0 : World) (L : List Chunk) (g : Nat) (s : List UInt8) (i : Nat) (l c : Int) (r : Ending) (w' : World) : Prop :=
  match nextP (s.drop i) l c with
  | .tok t n => r = .returned (.tuple #[.agg (tkA t), .int .i64 0]) ∧ i + n ≤ s.length ∧ Sat W0 w' (lxB g s ((i + n : Nat) : Int) (posA l c ((s.drop i).take n)).1 (posA l c ((s.drop i).take n)).2 :: L)
  | .err e n => r = .returned (.tuple #[.agg #[.int .i64 0, .string ⟨#[]⟩, .int .i64 0, .int .i64 0, .int .i64 0], .int .i64 e]) ∧ i + n ≤ s.length ∧ Sat W0 w' (lxB g s ((i + n : Nat) : Int) (posA l c ((s.drop i).take n)).1 (posA l c ((s.drop i).take n)).2 :: L)
theorem nextR_tok {W0 w' : World} {L : List Chunk} {g : Nat} {s : List UInt8} {i j n : Nat} {l c l1 c1 : Int} {t : S71} {m : Nat} {r : Ending} (hF : n = blkN false (s.drop i) ∧ j = i + n ∧ l1 = (posA l c ((s.drop i).take n)).1 ∧ c1 = (posA l c ((s.drop i).take n)).2) (hx : nxtP (s.drop j) l1 c1 n = .tok t (n + m)) (hr : r = .returned (.tuple #[.agg (tkA t), .int .i64 0])) (hm : j + m ≤ s.length)
    (HS : Sat W0 w' (lxB g s ((j + m : Nat) : Int) (posA l1 c1 ((s.drop j).take m)).1 (posA l1 c1 ((s.drop j).take m)).2 :: L)) : NextR W0 L g s i l c r w' := by
  obtain ⟨e1, e2, e3, e4⟩ := hF
  have hnx : nextP (s.drop i) l c = .tok t (n + m) := by unfold nextP; rw [← e1, ← e3, ← e4, List.drop_drop, ← e2]; exact hx
  unfold NextR
  rw [hnx]
  refine ⟨hr, by omega, ?_⟩
  rw [blk_pos (j := j) e2, ← e3, ← e4, ← Nat.add_assoc, ← e2]
  exact HS
theorem nextR_err {W0 w' : World} {L : List Chunk} {g : Nat} {s : List UInt8} {i j n : Nat} {l c l1 c1 : Int} {e : Int} {r : Ending} (hF : n = blkN false (s.drop i) ∧ j = i + n ∧ l1 = (posA l c ((s.drop i).take n)).1 ∧ c1 = (posA l c ((s.drop i).take n)).2) (hx : nxtP (s.drop j) l1 c1 n = .err e n) (hr : r = .returned (.tuple #[.agg #[.int .i64 0, .string ⟨#[]⟩, .int .i64 0, .int .i64 0, .int .i64 0], .int .i64 e])) (hm : j ≤ s.length)
    (HS : Sat W0 w' (lxB g s (j : Int) l1 c1 :: L)) : NextR W0 L g s i l c r w' := by
  obtain ⟨e1, e2, e3, e4⟩ := hF
  have hnx : nextP (s.drop i) l c = .err e n := by unfold nextP; rw [← e1, ← e3, ← e4, List.drop_drop, ← e2]; exact hx
  unfold NextR
  rw [hnx]
  refine ⟨hr, by omega, ?_⟩
  rw [← e3, ← e4, ← e2]
  exact HS
theorem blk_le : ∀ (b : Bool) (r : List UInt8), blkN b r ≤ r.length
  | _, [] => by rw [blkN]; omega
  | true, c :: r => by rw [blkN, List.length_cons]; have h1 := blk_le false r; have h2 := blk_le true r; split <;> omega
  | false, c :: r => by rw [blkN, List.length_cons]; have h1 := blk_le false r; have h2 := blk_le true r; split; · omega
                        · split <;> omega
set_option maxRecDepth 100000 in
set_option maxHeartbeats 8000000 in
theorem next_calls {W0 w : World} {L : List Chunk} {g : Nat} {s : List UInt8} {i : Nat} {l c : Int} (hG : GL W0) (io : Nat) (hio : L[io]? = some (old W0)) (h : LxOk s i l c) (HS : Sat W0 w (lxB g s (i : Int) l c :: L)) :
    Calls Tryd.prog 42 #[.pointer (some ⟨g, 0, none⟩)] w fun r w' => NextR W0 L g s i l c r w' := by
  have hnl : i + blkN false (s.drop i) ≤ s.length := by have := blk_le false (s.drop i); rw [List.length_drop] at this; have := h.le; omega
  have HO := Aside0.mk h
  have HO2 := Aside0.mk (h.go hnl)
  have HG := Aside0.mk hG
  have HOL := Aside0.mk (fun (w : World) (c1 c2 c3 : Chunk) (HS : Sat W0 w (c1 :: c2 :: c3 :: L)) => HS.old (io + 3) (by simpa using hio))
  obtain ⟨n, hn⟩ : ∃ n, n = blkN false (s.drop i) := ⟨_, rfl⟩
  rw [← hn] at HO2 hnl
  obtain ⟨l1, hl1⟩ : ∃ z, z = (posA l c ((s.drop i).take n)).1 := ⟨_, rfl⟩
  obtain ⟨c1, hc1⟩ : ∃ z, z = (posA l c ((s.drop i).take n)).2 := ⟨_, rfl⟩
  rw [← hl1, ← hc1] at HO2
  obtain ⟨j, hj⟩ : ∃ z, z = i + n := ⟨_, rfl⟩
  rw [← hj] at HO2 hnl
  have HBL := Aside0.mk (fun (L : List Chunk) (w : World) (HS : Sat W0 w (lxB g s (i : Int) l c :: L)) => blank_calls h HS)
  rw [← hn, ← hj, ← hl1, ← hc1] at HBL
  obtain ⟨J, hJ⟩ : ∃ z : Int, z = (j : Int) := ⟨_, rfl⟩
  rw [← hJ] at HBL
  have HF := Aside0.mk (show n = blkN false (s.drop i) ∧ j = i + n ∧ l1 = (posA l c ((s.drop i).take n)).1 ∧ c1 = (posA l c ((s.drop i).take n)).2 ∧ J = (j : Int) ∧ j ≤ s.length from ⟨hn, hj, hl1, hc1, hJ, hnl⟩)
  clear h hG hio hn hl1 hc1 hj hJ hnl
  have hsz := bs_size s
  go_enter Tryd.func42, Tryd.ntmps42
  go_upto_region 1 with ((with_reducible refine gate_dst (N := 2) rfl ?_); go_must (refine ev_box HS rfl (N := 2) rfl (cs := #[.int .i64 0, .string ⟨#[]⟩, .int .i64 0, .int .i64 0, .int .i64 0]) (t := 71) ?hrun ?_); (case hrun => first | (go_simp; done) | (go_simp; rfl)); clear HS; intro g2 w HS)
  replace HS := HS.swap
  go_upto_region 2 with (go_at_call 53; refine (HBL.out _ _ HS).mono ?_; rintro e w_ ⟨rfl, HS_⟩; clear HS; have HS := HS_; clear HS_)
  have cb := HS.cell 0 rfl
  go_upto_region 3 with (first | ((with_reducible refine gate_load (ty := 32) (p := 16) rfl ?_); go_must (refine ev_load_part HS 0 rfl rfl 32 (.tmp 16) rfl (N := 17) rfl 2 rfl _ Tryd.underlying32 rfl [.int .i64 l1, .int .i64 c1] (by kernel_rfl) (fun j v hj => by match j, hj with | 0, h => exact h | 1, h => exact h) ?_)) | ((with_reducible refine gate_dst (N := 4) rfl ?_); go_must (refine ev_box HS rfl (N := 4) rfl (cs := #[.int .i64 0, .string ⟨#[]⟩, .int .i64 0, .int .i64 0, .int .i64 0]) (t := 71) ?hrun ?_); (case hrun => first | (go_simp; done) | (go_simp; rfl)); clear HS; intro g4 w HS) | ((with_reducible refine gate_store (t := 71) (p := 4) rfl ?_); go_must (refine ev_store HS 0 rfl rfl 71 (.tmp 4) (.tmp 18) rfl rfl rfl [.int .i64 0, .string ⟨#[]⟩, .int .i64 0, .int .i64 l1, .int .i64 c1] ?hx (by kernel_rfl) (by rfl) ?h1 ?_); (case hx => first | rfl | (go_simp; done)); (case h1 => simp [Value.oneCell']); clear HS; intro w HS))
  clear cb
  replace HS : Sat W0 w (blk g4 71 #[.int .i64 0, .string ⟨#[]⟩, .int .i64 0, .int .i64 l1, .int .i64 c1] :: lxB g s J l1 c1 :: blk g2 71 #[.int .i64 0, .string ⟨#[]⟩, .int .i64 0, .int .i64 0, .int .i64 0] :: L) := HS
  have cb := HS.cell 1 rfl
  by_cases hlt : j < s.length
  · have hnl := HF.out.2.2.2.2.2
    have hJj := HF.out.2.2.2.2.1
    have hlen := HO2.out.len
    have c1_ : (J == (s.length : Int)) = false := beq_eq_false_iff_ne.2 (by omega)
    have h0 : (0 ≤ J) = True := eq_true (by omega)
    have h2 : (J < ((bs s).size : Int)) = True := eq_true (by rw [hsz]; omega)
    have h2' : (J < (s.length : Int)) = True := eq_true (by omega)
    have hbt : J.toNat < (bs s).size := by rw [hsz]; omega
    obtain ⟨X, hX⟩ : ∃ X, s[j] = X := ⟨_, rfl⟩
    have hcell : (bs s)[J.toNat]'hbt = X := by
      have e : J.toNat = j := by omega
      simp only [e]
      exact hX
    have HLT := Aside0.mk (fun (w : World) => lex_letter.calls (X.toNat : Int) (isL X) w (letter_bs X))
    have HDG := Aside0.mk (fun (w : World) => lex_digit.calls (X.toNat : Int) (isD X) w (digit_bs X))
    have HDR := Aside0.mk (show ∃ t, s.drop j = X :: t from ⟨s.drop (j + 1), by rw [drop_get hlt, hX]⟩)
    have HJ := Aside0.mk (show J = (j : Int) ∧ j < s.length from ⟨hJj, hlt⟩)
    clear hX hlt hnl hJj
    go_wp2
    go_quiet (fail)
    refine then_drawnN HS (fun w HS => ?_)
    clear cb
    have cb := HS.cell 1 rfl
    go_wp2
    go_quiet (fail)
    refine then_drawnN HS (fun w HS => ?_)
    clear cb hcell hbt
    have cb := HS.cell 1 rfl
    cases hL : isL X with
    | true =>
      rw [hL] at HLT
      have HXL := Aside0.mk hL
      clear hL
      have hrl := run_le true (s.drop j)
      rw [List.length_drop] at hrl
      have HRN := Aside0.mk (fun (w : World) (L : List Chunk) (HS : Sat W0 w (lxB g s J l1 c1 :: L)) => run_calls true HO2.out (by rw [HJ.out.1] at HS; exact HS))
      obtain ⟨m, hm⟩ : ∃ m, m = runN true (s.drop j) := ⟨_, rfl⟩
      rw [← hm] at HRN hrl
      obtain ⟨M, hM⟩ : ∃ z : Int, z = (m : Int) := ⟨_, rfl⟩
      have hjm : j + m ≤ s.length := by have := HJ.out.2; omega
      obtain ⟨K, hK⟩ : ∃ z : Int, z = J + M := ⟨_, rfl⟩
      have hJ1 := HJ.out.1
      have hwk : wrap64 (J + M) = K := by rw [← hK]; exact w64 _ (by omega) (by omega)
      have k1 : (J ≤ K) = True := eq_true (by omega)
      have k2 : (K ≤ (s.length : Int)) = True := eq_true (by omega)
      have k3 : (0 ≤ K) = True := eq_true (by omega)
      have htx : (bs s).extract J.toNat K.toNat = bs ((s.drop j).take m) := by
        have e1 : J.toNat = j := by omega
        have e2 : K.toNat = j + m := by omega
        rw [e1, e2]
        exact bs_sub hjm
      obtain ⟨tx, htx_⟩ : ∃ t, t = (s.drop j).take m := ⟨_, rfl⟩
      rw [← htx_] at htx
      have HM := Aside0.mk (show m = runN true (s.drop j) ∧ M = (m : Int) ∧ j + m ≤ s.length ∧ tx = (s.drop j).take m ∧ tx.length = m from ⟨hm, hM, hjm, htx_, by rw [htx_, List.length_take, List.length_drop]; omega⟩)
      clear hm hjm hK hJ1 hrl htx_
      rw [← hM] at HRN
      clear hM
      go_upto_region 15 with (go_at_call 54; refine (HLT.out _).mono ?_; rintro e w_ ⟨rfl, hd⟩; replace HS := HS.below hd.below; clear hd)
      clear cb
      have cb := HS.cell 1 rfl
      refine start_ (n := 20) (S := fun w' => ∃ L', Sat W0 w' (lxB g s J l1 c1 :: L')) (ds := []) #[false, false, false, false, false, false, false, false, false, false, false, false, false, false, false, false, false, false, false, false] (by kernel_rfl) rfl rfl ⟨_, HS.drew.front 1 rfl⟩ (fun hHeld => ?_)
      replace HS := HS.drew
      generalize World.drew w = w at HS hHeld ⊢
      refine pure_ (i := 0) (N := some 72) (v := ?_) (a' := ?_) #[true, false, false, false, false, false, false, false, false, false, false, false, false, false, false, false, false, false, false, false] rfl rfl (by kernel_rfl) (fun _ _ _ h => h) (Or.inl ⟨by rfl, ?_⟩) ?_ ?_
      rotate_left
      · intro w'
        go_simp
        with_reducible rfl
      rotate_left
      · (try simp only [Act.put, List.setIfInBounds_toArray, List.set_cons_zero, List.set_cons_succ, i64_w, i32_w])
        rfl
      refine pure_ (i := 1) (N := some 73) (v := ?_) (a' := ?_) #[true, true, false, false, false, false, false, false, false, false, false, false, false, false, false, false, false, false, false, false] rfl rfl (by kernel_rfl) (fun _ _ _ h => h) (Or.inl ⟨by rfl, ?_⟩) ?_ ?_
      rotate_left
      · intro w'
        go_simp
        with_reducible rfl
      rotate_left
      · (try simp only [Act.put, List.setIfInBounds_toArray, List.set_cons_zero, List.set_cons_succ, i64_w, i32_w])
        rfl
      refine pure_ (i := 2) (N := some 74) (v := ?_) (a' := ?_) #[true, true, true, false, false, false, false, false, false, false, false, false, false, false, false, false, false, false, false, false] rfl rfl (by kernel_rfl) (fun _ _ _ h => h) (Or.inl ⟨by rfl, ?_⟩) ?_ ?_
      rotate_left
      · intro w'
        go_simp
        with_reducible rfl
      rotate_left
      · (try simp only [Act.put, List.setIfInBounds_toArray, List.set_cons_zero, List.set_cons_succ, i64_w, i32_w])
        rfl
      refine take_ (i := 3) (N := some 75) (v := ?_) (a' := ?_) #[true, true, true, true, false, false, false, false, false, false, false, false, false, false, false, false, false, false, false, false] rfl rfl (by kernel_rfl) (fun _ _ _ h => h) (Or.inl ⟨by rfl, ?_⟩) hHeld ?_ ?_
      rotate_left
      · rintro w' hS
        obtain ⟨L', hS⟩ := hS
        have cb := hS.cell 0 rfl
        go_simp
        with_reducible rfl
      rotate_left
      · (try simp only [Act.put, List.setIfInBounds_toArray, List.set_cons_zero, List.set_cons_succ, i64_w, i32_w])
        rfl
      refine pure_ (i := 4) (N := some 76) (v := ?_) (a' := ?_) #[true, true, true, true, true, false, false, false, false, false, false, false, false, false, false, false, false, false, false, false] rfl rfl (by kernel_rfl) (fun _ _ _ h => h) (Or.inl ⟨by rfl, ?_⟩) ?_ ?_
      rotate_left
      · intro w'
        go_simp
        with_reducible rfl
      rotate_left
      · (try simp only [Act.put, List.setIfInBounds_toArray, List.set_cons_zero, List.set_cons_succ, i64_w, i32_w])
        rfl
      refine pure_ (i := 5) (N := some 77) (v := ?_) (a' := ?_) #[true, true, true, true, true, true, false, false, false, false, false, false, false, false, false, false, false, false, false, false] rfl rfl (by kernel_rfl) (fun _ _ _ h => h) (Or.inl ⟨by rfl, ?_⟩) ?_ ?_
      rotate_left
      · intro w'
        go_simp
        with_reducible rfl
      rotate_left
      · (try simp only [Act.put, List.setIfInBounds_toArray, List.set_cons_zero, List.set_cons_succ, i64_w, i32_w])
        rfl
      refine pure_ (i := 6) (N := some 78) (v := ?_) (a' := ?_) #[true, true, true, true, true, true, true, false, false, false, false, false, false, false, false, false, false, false, false, false] rfl rfl (by kernel_rfl) (fun _ _ _ h => h) (Or.inl ⟨by rfl, ?_⟩) ?_ ?_
      rotate_left
      · intro w'
        go_simp
        with_reducible rfl
      rotate_left
      · (try simp only [Act.put, List.setIfInBounds_toArray, List.set_cons_zero, List.set_cons_succ, i64_w, i32_w])
        rfl
      refine take_ (i := 7) (N := some 79) (v := ?_) (a' := ?_) #[true, true, true, true, true, true, true, true, false, false, false, false, false, false, false, false, false, false, false, false] rfl rfl (by kernel_rfl) (fun _ _ _ h => h) (Or.inl ⟨by rfl, ?_⟩) hHeld ?_ ?_
      rotate_left
      · rintro w' hS
        obtain ⟨L', hS⟩ := hS
        have cb := hS.cell 0 rfl
        go_simp
        with_reducible rfl
      rotate_left
      · (try simp only [Act.put, List.setIfInBounds_toArray, List.set_cons_zero, List.set_cons_succ, i64_w, i32_w])
        rfl
      refine pure_ (i := 8) (N := some 80) (v := ?_) (a' := ?_) #[true, true, true, true, true, true, true, true, true, false, false, false, false, false, false, false, false, false, false, false] rfl rfl (by kernel_rfl) (fun _ _ _ h => h) (Or.inl ⟨by rfl, ?_⟩) ?_ ?_
      rotate_left
      · intro w'
        go_simp
        with_reducible rfl
      rotate_left
      · (try simp only [Act.put, List.setIfInBounds_toArray, List.set_cons_zero, List.set_cons_succ, i64_w, i32_w])
        rfl
      refine pure_ (i := 9) (N := some 81) (v := ?_) (a' := ?_) #[true, true, true, true, true, true, true, true, true, true, false, false, false, false, false, false, false, false, false, false] rfl rfl (by kernel_rfl) (fun _ _ _ h => h) (Or.inl ⟨by rfl, ?_⟩) ?_ ?_
      rotate_left
      · intro w'
        go_simp
        with_reducible rfl
      rotate_left
      · (try simp only [Act.put, List.setIfInBounds_toArray, List.set_cons_zero, List.set_cons_succ, i64_w, i32_w])
        rfl
      refine pure_ (i := 10) (N := some 82) (v := ?_) (a' := ?_) #[true, true, true, true, true, true, true, true, true, true, true, false, false, false, false, false, false, false, false, false] rfl rfl (by kernel_rfl) (fun _ _ _ h => h) (Or.inl ⟨by rfl, ?_⟩) ?_ ?_
      rotate_left
      · intro w'
        go_simp
        with_reducible rfl
      rotate_left
      · (try simp only [Act.put, List.setIfInBounds_toArray, List.set_cons_zero, List.set_cons_succ, i64_w, i32_w])
        rfl
      refine take_ (i := 11) (N := some 83) (v := ?_) (a' := ?_) #[true, true, true, true, true, true, true, true, true, true, true, true, false, false, false, false, false, false, false, false] rfl rfl (by kernel_rfl) (fun _ _ _ h => h) (Or.inl ⟨by rfl, ?_⟩) hHeld ?_ ?_
      rotate_left
      · rintro w' hS
        obtain ⟨L', hS⟩ := hS
        have cb := hS.cell 0 rfl
        go_simp
        with_reducible rfl
      rotate_left
      · (try simp only [Act.put, List.setIfInBounds_toArray, List.set_cons_zero, List.set_cons_succ, i64_w, i32_w])
        rfl
      refine pure_ (i := 12) (N := some 84) (v := ?_) (a' := ?_) #[true, true, true, true, true, true, true, true, true, true, true, true, true, false, false, false, false, false, false, false] rfl rfl (by kernel_rfl) (fun _ _ _ h => h) (Or.inl ⟨by rfl, ?_⟩) ?_ ?_
      rotate_left
      · intro w'
        go_simp
        with_reducible rfl
      rotate_left
      · (try simp only [Act.put, List.setIfInBounds_toArray, List.set_cons_zero, List.set_cons_succ, i64_w, i32_w])
        rfl
      refine pure_ (i := 16) (N := some 88) (v := ?_) (a' := ?_) #[true, true, true, true, true, true, true, true, true, true, true, true, true, false, false, false, true, false, false, false] rfl rfl (by kernel_rfl) (fun _ _ _ h => h) (Or.inl ⟨by rfl, ?_⟩) ?_ ?_
      rotate_left
      · intro w'
        go_simp
        with_reducible rfl
      rotate_left
      · (try simp only [Act.put, List.setIfInBounds_toArray, List.set_cons_zero, List.set_cons_succ, i64_w, i32_w])
        rfl
      refine one_ (i := 13) (N := some 85) #[true, true, true, true, true, true, true, true, true, true, true, true, true, true, false, false, true, false, false, false] rfl rfl (by kernel_rfl) (by decide) (fun K hK => ?_)
      refine goes_ Tryd.func55 (by kernel_rfl) rfl #[.pointer (some ⟨g, 0, none⟩), .bool true] (by rfl) rfl rfl (by (try simp only [List.map_toArray, List.map_cons, List.map_nil]); first | done | rfl) ?_
      refine (HRN.out _ _ (HS.front 1 rfl)).mono ?_
      rintro e w_ ⟨rfl, hd⟩
      refine ⟨_, rfl, ?_⟩
      replace HS := HS.below hd.below
      clear hd
      refine hK.out _ _ ⟨_, HS.front 1 rfl⟩ (fun hHeld => ?_)
      clear hK K
      refine norm_ (a' := ?_) ?_ ?_
      rotate_left
      · show Act.put _ _ _ = _
        (try simp only [Act.put, List.setIfInBounds_toArray, List.set_cons_zero, List.set_cons_succ, i64_w, i32_w])
        rfl
      refine pure_ (i := 14) (N := some 86) (v := ?_) (a' := ?_) #[true, true, true, true, true, true, true, true, true, true, true, true, true, true, true, false, true, false, false, false] rfl rfl (by kernel_rfl) (fun _ _ _ h => h) (Or.inl ⟨by rfl, ?_⟩) ?_ ?_
      rotate_left
      · intro w'
        go_simp
        with_reducible rfl
      rotate_left
      · (try simp only [Act.put, List.setIfInBounds_toArray, List.set_cons_zero, List.set_cons_succ, i64_w, i32_w])
        rfl
      refine pure_ (i := 15) (N := some 87) (v := ?_) (a' := ?_) #[true, true, true, true, true, true, true, true, true, true, true, true, true, true, true, true, true, false, false, false] rfl rfl (by kernel_rfl) (fun _ _ _ h => h) (Or.inl ⟨by rfl, ?_⟩) ?_ ?_
      rotate_left
      · intro w'
        go_simp
        with_reducible rfl
      rotate_left
      · (try simp only [Act.put, List.setIfInBounds_toArray, List.set_cons_zero, List.set_cons_succ, i64_w, i32_w])
        rfl
      refine one_ (i := 17) (N := none) #[true, true, true, true, true, true, true, true, true, true, true, true, true, true, true, true, true, true, false, false] rfl rfl (by kernel_rfl) (by decide) (fun K hK => ?_)
      refine ev_storeN_step HS 0 rfl (by rfl) 0 69 (.tmp 88) (.const (.int .i64 1)) rfl rfl rfl (.int .i64 1) rfl [.int .i64 1] rfl (by kernel_rfl) (by simp) ?h1 #[.int .i64 1, .string ⟨#[]⟩, .int .i64 0, .int .i64 l1, .int .i64 c1] rfl ?_
      (case h1 => simp [Value.oneCell'])
      clear HS
      intro w HS
      refine hK.out _ _ ⟨_, HS.front 1 rfl⟩ (fun hHeld => ?_)
      clear hK K
      refine pure_ (i := 18) (N := some 89) (v := ?_) (a' := ?_) #[true, true, true, true, true, true, true, true, true, true, true, true, true, true, true, true, true, true, true, false] rfl rfl (by kernel_rfl) (fun _ _ _ h => h) (Or.inl ⟨by rfl, ?_⟩) ?_ ?_
      rotate_left
      · intro w'
        go_simp
        with_reducible rfl
      rotate_left
      · (try simp only [Act.put, List.setIfInBounds_toArray, List.set_cons_zero, List.set_cons_succ, i64_w, i32_w])
        rfl
      refine one_ (i := 19) (N := none) #[true, true, true, true, true, true, true, true, true, true, true, true, true, true, true, true, true, true, true, true] rfl rfl (by kernel_rfl) (by decide) (fun K hK => ?_)
      refine ev_storeN_step HS 0 rfl (by rfl) 1 9 (.tmp 89) (.tmp 87) rfl rfl rfl (.string (bs tx)) rfl [.string (bs tx)] rfl (by kernel_rfl) (by simp) ?h1 #[.int .i64 1, .string (bs tx), .int .i64 0, .int .i64 l1, .int .i64 c1] rfl ?_
      (case h1 => simp [Value.oneCell'])
      clear HS
      intro w HS
      refine hK.out _ _ ⟨_, HS.front 1 rfl⟩ (fun hHeld => ?_)
      clear hK K
      refine done_ (by kernel_rfl) ?_
      clear hHeld
      clear k1 k2 k3 hwk htx h0 h2 h2' cb
      replace HS : Sat W0 w (blk g4 71 #[.int .i64 1, .string (bs tx), .int .i64 0, .int .i64 l1, .int .i64 c1] :: lxB g s J l1 c1 :: blk g2 71 #[.int .i64 0, .string ⟨#[]⟩, .int .i64 0, .int .i64 0, .int .i64 0] :: L) := HS
      obtain ⟨wa, wcap, hw0, hw1⟩ := HG.out.words
      have hwc := cell_below hw0 (HOL.out _ _ _ _ HS)
      have hwl : wordList.length = 11 := rfl
      rw [hwl] at hwc
      have HW1 := Aside0.mk hw1
      clear hw0 hw1 hwl
      go_wp2
      go_loopg [92] 12 (fun kq v92 w' => ∃ (q : Nat), v92 = .int .i64 (q : Int) ∧ Aside0 (q ≤ 11 ∧ 12 ≤ kq + q) ∧ Aside0 (Sat W0 w' (blk g4 71 #[.int .i64 (if (wordList.take q).contains tx then 3 else 1), .string (bs tx), .int .i64 0, .int .i64 l1, .int .i64 c1] :: lxB g s J l1 c1 :: blk g2 71 #[.int .i64 0, .string ⟨#[]⟩, .int .i64 0, .int .i64 0, .int .i64 0] :: L)))
      case atStart => exact ⟨0, rfl, ⟨by omega, by omega⟩, ⟨HS⟩⟩
      case round =>
        clear HS hwc
        obtain ⟨q, rfl, HQ, HS'⟩ := hrel
        have HS := HS'.out
        clear HS'
        cases gk with
        | zero => have := HQ.out; omega
        | succ k1 =>
          by_cases hq : q < 11
          · obtain ⟨kd, hkd⟩ : ∃ z : Int, z = (if (wordList.take q).contains tx then 3 else 1) := ⟨_, rfl⟩
            rw [← hkd] at HS
            have hql : q < wordList.length := hq
            obtain ⟨wx, hwx⟩ : ∃ z, wordList[q] = z := ⟨_, rfl⟩
            have hx := HW1.out q wx (by rw [List.getElem?_eq_getElem hql, hwx])
            have hx' := cell_below hx (HOL.out _ _ _ _ HS)
            have hnext : (if (wordList.take (q + 1)).contains tx then (3 : Int) else 1) = if (wx == tx) = true then 3 else kd := by
              rw [List.take_succ_eq_append_getElem hql, hwx, hkd]
              by_cases he : wx = tx
              · subst he; simp
              · have he' : (wx == tx) = false := beq_eq_false_iff_ne.2 he
                have he2 : ¬ tx = wx := fun e => he e.symm
                simp [he', he2]
            have HNX := Aside0.mk hnext
            have hwq : wrap64 ((q : Int) + 1) = (q : Int) + 1 := w64 _ (by omega) (by omega)
            obtain ⟨QI, hQI⟩ : ∃ z : Int, z = (q : Int) := ⟨_, rfl⟩
            have HQI := Aside0.mk hQI
            have hqt : QI.toNat = q := by omega
            rw [← hqt] at hx'
            rw [← hQI] at hwq ⊢
            have c1_ : decide (QI < 11) = true := decide_eq_true (by omega)
            have r1 : (0 ≤ QI) = True := eq_true (by omega)
            have r2 : (QI < 11) = True := eq_true (by omega)
            have e2 : ∀ l : List UInt8, (bs l).toList = l := fun l => by simp [bs]
            have cb := HS.cell 0 rfl
            clear hnext hkd hx hwx hqt hQI
            cases heq : (wx == tx) with
            | true =>
              have hE : ((bs wx).toList == (bs tx).toList) = true := by rw [e2, e2]; exact heq
              have HEQ := Aside0.mk heq
              clear heq e2
              go_wp2_with ((with_reducible refine gate_store (t := 69) (p := 100) rfl ?_); go_must (refine ev_storeN HS 0 rfl rfl 0 69 (.tmp 100) (.const (.int .i64 3)) rfl rfl rfl (.int .i64 3) ?hv [.int .i64 3] rfl (by kernel_rfl) (by simp) ?h1 #[.int .i64 3, .string (bs tx), .int .i64 0, .int .i64 l1, .int .i64 c1] rfl ?_); (case hv => first | rfl | (go_simp; done) | (go_simp; rfl)); (case h1 => simp [Value.oneCell']); clear HS; intro w HS)
              go_roundg k1
              case measure => exact Nat.lt_succ_self _
              case rel =>
                refine ⟨q + 1, by first | (rw [hwq, HQI.out]; rfl) | (rw [HQI.out]; rfl), ⟨by omega, by have := HQ.out; omega⟩, ⟨?_⟩⟩
                rw [HNX.out, if_pos HEQ.out]
                exact HS
            | false =>
              have hE : ((bs wx).toList == (bs tx).toList) = false := by rw [e2, e2]; exact heq
              have HEQ := Aside0.mk heq
              clear heq e2
              go_wp2
              go_roundg k1
              case measure => exact Nat.lt_succ_self _
              case rel =>
                refine ⟨q + 1, by first | (rw [hwq, HQI.out]; rfl) | (rw [HQI.out]; rfl), ⟨by omega, by have := HQ.out; omega⟩, ⟨?_⟩⟩
                rw [HNX.out, if_neg (by rw [HEQ.out]; decide)]
                exact HS
          · have hq11 : q = 11 := by have := HQ.out; omega
            subst hq11
            rw [show wordList.take 11 = wordList from rfl] at HS
            have HNX := Aside0.mk (show nxtP (s.drop j) l1 c1 n = .tok ⟨if wordList.contains tx then 3 else 1, bs tx, 0, ⟨l1, c1⟩⟩ (n + m) from by
              obtain ⟨t, ht⟩ := HDR.out
              obtain ⟨e1, e2, e3, e4, e5⟩ := HM.out
              rw [e4, e1]
              rw [ht]
              unfold nxtP
              simp only [HXL.out, if_true])
            obtain ⟨kd, hkd⟩ : ∃ z : Int, z = (if wordList.contains tx then 3 else 1) := ⟨_, rfl⟩
            rw [← hkd] at HS HNX
            clear hkd
            have c1_ : decide ((11 : Int) < 11) = false := by decide
            have cb := HS.cell 0 rfl
            have HSK := Aside0.mk (fun (w : World) (L : List Chunk) (HS : Sat W0 w (lxB g s J l1 c1 :: L)) => skip_at (n := m) HO2.out HM.out.2.2.1 (by rw [HJ.out.1] at HS; exact HS))
            have htl : ((bs tx).size : Int) = (m : Int) := by rw [bs_size, HM.out.2.2.2.2]
            have htl2 : tx.length = m := HM.out.2.2.2.2
            go_upto_region 29 with (go_at_call 59; refine (HSK.out _ _ (HS.front 1 rfl)).mono ?_; rintro e w_ ⟨rfl, HS_⟩; clear HS; have HS := HS_; clear HS_)
            clear cb htl htl2
            go_wp2_with (first | ((with_reducible refine gate_dst (N := 139) rfl ?_); ((with_reducible refine gate_load (ty := 71) (p := 4) rfl ?_); go_must (refine ev_load HS 1 rfl rfl 71 (.tmp 4) rfl (N := 139) rfl rfl _ Tryd.underlying71 rfl (by kernel_rfl) ?_))) | ((with_reducible refine gate_store (t := 71) (p := 2) rfl ?_); go_must (refine ev_store HS 2 rfl rfl 71 (.tmp 2) (.tmp 139) rfl rfl rfl [.int .i64 kd, .string (bs tx), .int .i64 0, .int .i64 l1, .int .i64 c1] ?hx (by kernel_rfl) (by rfl) ?h1 ?_); (case hx => first | rfl | (go_simp; done)); (case h1 => simp [Value.oneCell']); clear HS; intro w HS))
            refine bodyPost_ret (results_ct (p := 2) (u := 3) rfl _ w g2 71 _ (0, 0) _ rfl (HS.blk 2 rfl) Tryd.underlying71 rfl (by kernel_rfl)) rfl ?_
            obtain ⟨e1, e2, e3, e4, e5, e6⟩ := HF.out
            exact nextR_tok (t := ⟨kd, bs tx, 0, ⟨l1, c1⟩⟩) (m := m) ⟨e1, e2, e3, e4⟩ HNX.out rfl HM.out.2.2.1 (HS.swap.tail).swap.tail
    | false =>
      rw [hL] at HLT
      have HXL := Aside0.mk hL
      clear hL
      cases hD : isD X with
      | true =>
        rw [hD] at HDG
        have HXD := Aside0.mk hD
        clear hD
        have hrl := run_le false (s.drop j)
        rw [List.length_drop] at hrl
        have HRN := Aside0.mk (fun (w : World) (L : List Chunk) (HS : Sat W0 w (lxB g s J l1 c1 :: L)) => run_calls false HO2.out (by rw [HJ.out.1] at HS; exact HS))
        obtain ⟨m, hm⟩ : ∃ m, m = runN false (s.drop j) := ⟨_, rfl⟩
        rw [← hm] at HRN hrl
        obtain ⟨M, hM⟩ : ∃ z : Int, z = (m : Int) := ⟨_, rfl⟩
        have hjm : j + m ≤ s.length := by have := HJ.out.2; omega
        obtain ⟨K, hK⟩ : ∃ z : Int, z = J + M := ⟨_, rfl⟩
        have hJ1 := HJ.out.1
        have hwk : wrap64 (J + M) = K := by rw [← hK]; exact w64 _ (by omega) (by omega)
        have k1 : (J ≤ K) = True := eq_true (by omega)
        have k2 : (K ≤ (s.length : Int)) = True := eq_true (by omega)
        have k3 : (0 ≤ K) = True := eq_true (by omega)
        have htx : (bs s).extract J.toNat K.toNat = bs ((s.drop j).take m) := by
          have e1 : J.toNat = j := by omega
          have e2 : K.toNat = j + m := by omega
          rw [e1, e2]
          exact bs_sub hjm
        obtain ⟨tx, htx_⟩ : ∃ t, t = (s.drop j).take m := ⟨_, rfl⟩
        rw [← htx_] at htx
        have htxl : tx.length = m := by rw [htx_, List.length_take, List.length_drop]; omega
        have HM := Aside0.mk (show m = runN false (s.drop j) ∧ M = (m : Int) ∧ j + m ≤ s.length ∧ tx = (s.drop j).take m ∧ tx.length = m from ⟨hm, hM, hjm, htx_, htxl⟩)
        have hvf := value_bs tx (by rw [htxl]; omega) (by rw [htx_, hm]; exact run_digits (s.drop j)) (tx.length + 1) (Nat.le_refl _)
        clear hm hjm hK hJ1 hrl htx_ htxl
        rw [← hM] at HRN
        clear hM
        go_upto_region 22 with (go_at_call 54; refine (HLT.out _).mono ?_; rintro e w_ ⟨rfl, hd⟩; replace HS := HS.below hd.below; clear hd)
        go_upto_region 23 with (go_at_call 56; refine (HDG.out _).mono ?_; rintro e w_ ⟨rfl, hd⟩; replace HS := HS.below hd.below; clear hd)
        clear cb
        have cb := HS.cell 1 rfl
        refine start_ (n := 20) (S := fun w' => ∃ L', Sat W0 w' (lxB g s J l1 c1 :: L')) (ds := []) #[false, false, false, false, false, false, false, false, false, false, false, false, false, false, false, false, false, false, false, false] (by kernel_rfl) rfl rfl ⟨_, HS.drew.front 1 rfl⟩ (fun hHeld => ?_)
        replace HS := HS.drew
        generalize World.drew w = w at HS hHeld ⊢
        refine pure_ (i := 0) (N := some 105) (v := ?_) (a' := ?_) #[true, false, false, false, false, false, false, false, false, false, false, false, false, false, false, false, false, false, false, false] rfl rfl (by kernel_rfl) (fun _ _ _ h => h) (Or.inl ⟨by rfl, ?_⟩) ?_ ?_
        rotate_left
        · intro w'
          go_simp
          with_reducible rfl
        rotate_left
        · (try simp only [Act.put, List.setIfInBounds_toArray, List.set_cons_zero, List.set_cons_succ, i64_w, i32_w])
          rfl
        refine pure_ (i := 1) (N := some 106) (v := ?_) (a' := ?_) #[true, true, false, false, false, false, false, false, false, false, false, false, false, false, false, false, false, false, false, false] rfl rfl (by kernel_rfl) (fun _ _ _ h => h) (Or.inl ⟨by rfl, ?_⟩) ?_ ?_
        rotate_left
        · intro w'
          go_simp
          with_reducible rfl
        rotate_left
        · (try simp only [Act.put, List.setIfInBounds_toArray, List.set_cons_zero, List.set_cons_succ, i64_w, i32_w])
          rfl
        refine pure_ (i := 2) (N := some 107) (v := ?_) (a' := ?_) #[true, true, true, false, false, false, false, false, false, false, false, false, false, false, false, false, false, false, false, false] rfl rfl (by kernel_rfl) (fun _ _ _ h => h) (Or.inl ⟨by rfl, ?_⟩) ?_ ?_
        rotate_left
        · intro w'
          go_simp
          with_reducible rfl
        rotate_left
        · (try simp only [Act.put, List.setIfInBounds_toArray, List.set_cons_zero, List.set_cons_succ, i64_w, i32_w])
          rfl
        refine take_ (i := 3) (N := some 108) (v := ?_) (a' := ?_) #[true, true, true, true, false, false, false, false, false, false, false, false, false, false, false, false, false, false, false, false] rfl rfl (by kernel_rfl) (fun _ _ _ h => h) (Or.inl ⟨by rfl, ?_⟩) hHeld ?_ ?_
        rotate_left
        · rintro w' hS
          obtain ⟨L', hS⟩ := hS
          have cb := hS.cell 0 rfl
          go_simp
          with_reducible rfl
        rotate_left
        · (try simp only [Act.put, List.setIfInBounds_toArray, List.set_cons_zero, List.set_cons_succ, i64_w, i32_w])
          rfl
        refine pure_ (i := 4) (N := some 109) (v := ?_) (a' := ?_) #[true, true, true, true, true, false, false, false, false, false, false, false, false, false, false, false, false, false, false, false] rfl rfl (by kernel_rfl) (fun _ _ _ h => h) (Or.inl ⟨by rfl, ?_⟩) ?_ ?_
        rotate_left
        · intro w'
          go_simp
          with_reducible rfl
        rotate_left
        · (try simp only [Act.put, List.setIfInBounds_toArray, List.set_cons_zero, List.set_cons_succ, i64_w, i32_w])
          rfl
        refine pure_ (i := 5) (N := some 110) (v := ?_) (a' := ?_) #[true, true, true, true, true, true, false, false, false, false, false, false, false, false, false, false, false, false, false, false] rfl rfl (by kernel_rfl) (fun _ _ _ h => h) (Or.inl ⟨by rfl, ?_⟩) ?_ ?_
        rotate_left
        · intro w'
          go_simp
          with_reducible rfl
        rotate_left
        · (try simp only [Act.put, List.setIfInBounds_toArray, List.set_cons_zero, List.set_cons_succ, i64_w, i32_w])
          rfl
        refine pure_ (i := 6) (N := some 111) (v := ?_) (a' := ?_) #[true, true, true, true, true, true, true, false, false, false, false, false, false, false, false, false, false, false, false, false] rfl rfl (by kernel_rfl) (fun _ _ _ h => h) (Or.inl ⟨by rfl, ?_⟩) ?_ ?_
        rotate_left
        · intro w'
          go_simp
          with_reducible rfl
        rotate_left
        · (try simp only [Act.put, List.setIfInBounds_toArray, List.set_cons_zero, List.set_cons_succ, i64_w, i32_w])
          rfl
        refine take_ (i := 7) (N := some 112) (v := ?_) (a' := ?_) #[true, true, true, true, true, true, true, true, false, false, false, false, false, false, false, false, false, false, false, false] rfl rfl (by kernel_rfl) (fun _ _ _ h => h) (Or.inl ⟨by rfl, ?_⟩) hHeld ?_ ?_
        rotate_left
        · rintro w' hS
          obtain ⟨L', hS⟩ := hS
          have cb := hS.cell 0 rfl
          go_simp
          with_reducible rfl
        rotate_left
        · (try simp only [Act.put, List.setIfInBounds_toArray, List.set_cons_zero, List.set_cons_succ, i64_w, i32_w])
          rfl
        refine pure_ (i := 8) (N := some 113) (v := ?_) (a' := ?_) #[true, true, true, true, true, true, true, true, true, false, false, false, false, false, false, false, false, false, false, false] rfl rfl (by kernel_rfl) (fun _ _ _ h => h) (Or.inl ⟨by rfl, ?_⟩) ?_ ?_
        rotate_left
        · intro w'
          go_simp
          with_reducible rfl
        rotate_left
        · (try simp only [Act.put, List.setIfInBounds_toArray, List.set_cons_zero, List.set_cons_succ, i64_w, i32_w])
          rfl
        refine pure_ (i := 9) (N := some 114) (v := ?_) (a' := ?_) #[true, true, true, true, true, true, true, true, true, true, false, false, false, false, false, false, false, false, false, false] rfl rfl (by kernel_rfl) (fun _ _ _ h => h) (Or.inl ⟨by rfl, ?_⟩) ?_ ?_
        rotate_left
        · intro w'
          go_simp
          with_reducible rfl
        rotate_left
        · (try simp only [Act.put, List.setIfInBounds_toArray, List.set_cons_zero, List.set_cons_succ, i64_w, i32_w])
          rfl
        refine pure_ (i := 10) (N := some 115) (v := ?_) (a' := ?_) #[true, true, true, true, true, true, true, true, true, true, true, false, false, false, false, false, false, false, false, false] rfl rfl (by kernel_rfl) (fun _ _ _ h => h) (Or.inl ⟨by rfl, ?_⟩) ?_ ?_
        rotate_left
        · intro w'
          go_simp
          with_reducible rfl
        rotate_left
        · (try simp only [Act.put, List.setIfInBounds_toArray, List.set_cons_zero, List.set_cons_succ, i64_w, i32_w])
          rfl
        refine take_ (i := 11) (N := some 116) (v := ?_) (a' := ?_) #[true, true, true, true, true, true, true, true, true, true, true, true, false, false, false, false, false, false, false, false] rfl rfl (by kernel_rfl) (fun _ _ _ h => h) (Or.inl ⟨by rfl, ?_⟩) hHeld ?_ ?_
        rotate_left
        · rintro w' hS
          obtain ⟨L', hS⟩ := hS
          have cb := hS.cell 0 rfl
          go_simp
          with_reducible rfl
        rotate_left
        · (try simp only [Act.put, List.setIfInBounds_toArray, List.set_cons_zero, List.set_cons_succ, i64_w, i32_w])
          rfl
        refine pure_ (i := 12) (N := some 117) (v := ?_) (a' := ?_) #[true, true, true, true, true, true, true, true, true, true, true, true, true, false, false, false, false, false, false, false] rfl rfl (by kernel_rfl) (fun _ _ _ h => h) (Or.inl ⟨by rfl, ?_⟩) ?_ ?_
        rotate_left
        · intro w'
          go_simp
          with_reducible rfl
        rotate_left
        · (try simp only [Act.put, List.setIfInBounds_toArray, List.set_cons_zero, List.set_cons_succ, i64_w, i32_w])
          rfl
        refine pure_ (i := 16) (N := some 121) (v := ?_) (a' := ?_) #[true, true, true, true, true, true, true, true, true, true, true, true, true, false, false, false, true, false, false, false] rfl rfl (by kernel_rfl) (fun _ _ _ h => h) (Or.inl ⟨by rfl, ?_⟩) ?_ ?_
        rotate_left
        · intro w'
          go_simp
          with_reducible rfl
        rotate_left
        · (try simp only [Act.put, List.setIfInBounds_toArray, List.set_cons_zero, List.set_cons_succ, i64_w, i32_w])
          rfl
        refine one_ (i := 13) (N := some 118) #[true, true, true, true, true, true, true, true, true, true, true, true, true, true, false, false, true, false, false, false] rfl rfl (by kernel_rfl) (by decide) (fun K hK => ?_)
        refine goes_ Tryd.func55 (by kernel_rfl) rfl #[.pointer (some ⟨g, 0, none⟩), .bool false] (by rfl) rfl rfl (by (try simp only [List.map_toArray, List.map_cons, List.map_nil]); first | done | rfl) ?_
        refine (HRN.out _ _ (HS.front 1 rfl)).mono ?_
        rintro e w_ ⟨rfl, hd⟩
        refine ⟨_, rfl, ?_⟩
        replace HS := HS.below hd.below
        clear hd
        refine hK.out _ _ ⟨_, HS.front 1 rfl⟩ (fun hHeld => ?_)
        clear hK K
        refine norm_ (a' := ?_) ?_ ?_
        rotate_left
        · show Act.put _ _ _ = _
          (try simp only [Act.put, List.setIfInBounds_toArray, List.set_cons_zero, List.set_cons_succ, i64_w, i32_w])
          rfl
        refine pure_ (i := 14) (N := some 119) (v := ?_) (a' := ?_) #[true, true, true, true, true, true, true, true, true, true, true, true, true, true, true, false, true, false, false, false] rfl rfl (by kernel_rfl) (fun _ _ _ h => h) (Or.inl ⟨by rfl, ?_⟩) ?_ ?_
        rotate_left
        · intro w'
          go_simp
          with_reducible rfl
        rotate_left
        · (try simp only [Act.put, List.setIfInBounds_toArray, List.set_cons_zero, List.set_cons_succ, i64_w, i32_w])
          rfl
        refine pure_ (i := 15) (N := some 120) (v := ?_) (a' := ?_) #[true, true, true, true, true, true, true, true, true, true, true, true, true, true, true, true, true, false, false, false] rfl rfl (by kernel_rfl) (fun _ _ _ h => h) (Or.inl ⟨by rfl, ?_⟩) ?_ ?_
        rotate_left
        · intro w'
          go_simp
          with_reducible rfl
        rotate_left
        · (try simp only [Act.put, List.setIfInBounds_toArray, List.set_cons_zero, List.set_cons_succ, i64_w, i32_w])
          rfl
        refine one_ (i := 17) (N := none) #[true, true, true, true, true, true, true, true, true, true, true, true, true, true, true, true, true, true, false, false] rfl rfl (by kernel_rfl) (by decide) (fun K hK => ?_)
        refine ev_storeN_step HS 0 rfl (by rfl) 0 69 (.tmp 121) (.const (.int .i64 2)) rfl rfl rfl (.int .i64 2) rfl [.int .i64 2] rfl (by kernel_rfl) (by simp) ?h1 #[.int .i64 2, .string ⟨#[]⟩, .int .i64 0, .int .i64 l1, .int .i64 c1] rfl ?_
        (case h1 => simp [Value.oneCell'])
        clear HS
        intro w HS
        refine hK.out _ _ ⟨_, HS.front 1 rfl⟩ (fun hHeld => ?_)
        clear hK K
        refine pure_ (i := 18) (N := some 122) (v := ?_) (a' := ?_) #[true, true, true, true, true, true, true, true, true, true, true, true, true, true, true, true, true, true, true, false] rfl rfl (by kernel_rfl) (fun _ _ _ h => h) (Or.inl ⟨by rfl, ?_⟩) ?_ ?_
        rotate_left
        · intro w'
          go_simp
          with_reducible rfl
        rotate_left
        · (try simp only [Act.put, List.setIfInBounds_toArray, List.set_cons_zero, List.set_cons_succ, i64_w, i32_w])
          rfl
        refine one_ (i := 19) (N := none) #[true, true, true, true, true, true, true, true, true, true, true, true, true, true, true, true, true, true, true, true] rfl rfl (by kernel_rfl) (by decide) (fun K hK => ?_)
        refine ev_storeN_step HS 0 rfl (by rfl) 1 9 (.tmp 122) (.tmp 120) rfl rfl rfl (.string (bs tx)) rfl [.string (bs tx)] rfl (by kernel_rfl) (by simp) ?h1 #[.int .i64 2, .string (bs tx), .int .i64 0, .int .i64 l1, .int .i64 c1] rfl ?_
        (case h1 => simp [Value.oneCell'])
        clear HS
        intro w HS
        refine hK.out _ _ ⟨_, HS.front 1 rfl⟩ (fun hHeld => ?_)
        clear hK K
        refine done_ (by kernel_rfl) ?_
        clear hHeld
        clear k1 k2 k3 hwk htx h0 h2 h2' cb
        replace HS : Sat W0 w (blk g4 71 #[.int .i64 2, .string (bs tx), .int .i64 0, .int .i64 l1, .int .i64 c1] :: lxB g s J l1 c1 :: blk g2 71 #[.int .i64 0, .string ⟨#[]⟩, .int .i64 0, .int .i64 0, .int .i64 0] :: L) := HS
        have cb := HS.cell 0 rfl
        cases hv : valP 0 tx with
        | none =>
          rw [hv] at hvf
          have HV := Aside0.mk (fun (w : World) => lex_value.calls (tx.length + 1) (bs tx) 0 false w hvf)
          have HNX := Aside0.mk (show nxtP (s.drop j) l1 c1 n = .err 11 n from by
            obtain ⟨t, ht⟩ := HDR.out
            obtain ⟨e1, e2, e3, e4, e5⟩ := HM.out
            rw [e4, e1] at hv
            rw [ht] at hv ⊢
            unfold nxtP
            simp only [HXL.out, HXD.out, hv, Bool.false_eq_true, if_false, if_true])
          clear hv hvf
          go_wp2_with (first | (go_at_call 57; refine (HV.out _).mono ?_; rintro e w_ ⟨rfl, hd⟩; replace HS := HS.below hd.below; clear hd) | ((with_reducible refine gate_store (t := 71) (p := 2) rfl ?_); go_must (refine ev_store HS 2 rfl rfl 71 (.tmp 2) (.tmp 131) rfl rfl rfl [.int .i64 0, .string ⟨#[]⟩, .int .i64 0, .int .i64 0, .int .i64 0] ?hx (by kernel_rfl) (by rfl) ?h1 ?_); (case hx => first | rfl | (go_simp; done)); (case h1 => simp [Value.oneCell']); clear HS; intro w HS))
          refine bodyPost_ret (results_ct (p := 2) (u := 3) rfl _ w g2 71 _ (0, 0) _ rfl (HS.blk 2 rfl) Tryd.underlying71 rfl (by kernel_rfl)) rfl ?_
          obtain ⟨e1, e2, e3, e4, e5, e6⟩ := HF.out
          have HS2 := HS.tail.swap.tail
          rw [e5] at HS2
          exact nextR_err ⟨e1, e2, e3, e4⟩ HNX.out rfl e6 HS2
        | some v =>
          rw [hv] at hvf
          have HV := Aside0.mk (fun (w : World) => lex_value.calls (tx.length + 1) (bs tx) v true w hvf)
          have HNX := Aside0.mk (show nxtP (s.drop j) l1 c1 n = .tok ⟨2, bs tx, v, ⟨l1, c1⟩⟩ (n + m) from by
            obtain ⟨t, ht⟩ := HDR.out
            obtain ⟨e1, e2, e3, e4, e5⟩ := HM.out
            rw [e4, e1] at hv ⊢
            rw [ht] at hv ⊢
            unfold nxtP
            simp only [HXL.out, HXD.out, hv, Bool.false_eq_true, if_false, if_true])
          clear hv hvf
          go_upto_region 28 with (first | (go_at_call 57; refine (HV.out _).mono ?_; rintro e w_ ⟨rfl, hd⟩; replace HS := HS.below hd.below; clear hd) | ((with_reducible refine gate_store (t := 2) (p := 133) rfl ?_); go_must (refine ev_storeN HS 0 rfl rfl 2 2 (.tmp 133) (.tmp 132) rfl rfl rfl (.int .i64 v) ?hv [.int .i64 v] rfl (by kernel_rfl) (by simp) ?h1 #[.int .i64 2, .string (bs tx), .int .i64 v, .int .i64 l1, .int .i64 c1] rfl ?_); (case hv => first | rfl | (go_simp; done) | (go_simp; rfl)); (case h1 => simp [Value.oneCell']); clear HS; intro w HS))
          clear cb
          have cb := HS.cell 0 rfl
          have HSK := Aside0.mk (fun (w : World) (L : List Chunk) (HS : Sat W0 w (lxB g s J l1 c1 :: L)) => skip_at (n := m) HO2.out HM.out.2.2.1 (by rw [HJ.out.1] at HS; exact HS))
          have htl : ((bs tx).size : Int) = (m : Int) := by rw [bs_size, HM.out.2.2.2.2]
          have htl2 : tx.length = m := HM.out.2.2.2.2
          go_upto_region 29 with (go_at_call 59; refine (HSK.out _ _ (HS.front 1 rfl)).mono ?_; rintro e w_ ⟨rfl, HS_⟩; clear HS; have HS := HS_; clear HS_)
          clear cb htl htl2
          go_wp2_with (first | ((with_reducible refine gate_dst (N := 139) rfl ?_); ((with_reducible refine gate_load (ty := 71) (p := 4) rfl ?_); go_must (refine ev_load HS 1 rfl rfl 71 (.tmp 4) rfl (N := 139) rfl rfl _ Tryd.underlying71 rfl (by kernel_rfl) ?_))) | ((with_reducible refine gate_store (t := 71) (p := 2) rfl ?_); go_must (refine ev_store HS 2 rfl rfl 71 (.tmp 2) (.tmp 139) rfl rfl rfl [.int .i64 2, .string (bs tx), .int .i64 v, .int .i64 l1, .int .i64 c1] ?hx (by kernel_rfl) (by rfl) ?h1 ?_); (case hx => first | rfl | (go_simp; done)); (case h1 => simp [Value.oneCell']); clear HS; intro w HS))
          refine bodyPost_ret (results_ct (p := 2) (u := 3) rfl _ w g2 71 _ (0, 0) _ rfl (HS.blk 2 rfl) Tryd.underlying71 rfl (by kernel_rfl)) rfl ?_
          obtain ⟨e1, e2, e3, e4, e5, e6⟩ := HF.out
          exact nextR_tok (t := ⟨2, bs tx, v, ⟨l1, c1⟩⟩) (m := m) ⟨e1, e2, e3, e4⟩ HNX.out rfl HM.out.2.2.1 (HS.swap.tail).swap.tail
      | false =>
        rw [hD] at HDG
        have HXD := Aside0.mk hD
        clear hD
        have hxe : (bs s).extract J.toNat s.length = bs (s.drop j) := by
          rw [HJ.out.1, ← bs_drop, hsz]
          rfl
        have HHP := Aside0.mk (fun (x : List UInt8) (w : World) => show Calls Tryd.prog 58 #[.string ((bs s).extract J.toNat s.length), .string (bs x)] w _ from by rw [hxe]; exact strings_HasPrefix.calls _ (bs x) _ w (hasprefix_bs (s.drop j) x))
        have h3 : (J ≤ (s.length : Int)) = True := eq_true (by have := HJ.out; omega)
        clear hxe h2 cb
        go_upto_region 22 with (go_at_call 54; refine (HLT.out _).mono ?_; rintro e w_ ⟨rfl, hd⟩; replace HS := HS.below hd.below; clear hd)
        go_upto_region 6 with (go_at_call 56; refine (HDG.out _).mono ?_; rintro e w_ ⟨rfl, hd⟩; replace HS := HS.below hd.below; clear hd)
        obtain ⟨wa, wcap, hw0, hw1⟩ := HG.out.marks
        have hwc := cell_below hw0 (HOL.out _ _ _ _ HS)
        have hwl : markList.length = 28 := rfl
        rw [hwl] at hwc
        have HW1 := Aside0.mk hw1
        clear hw0 hw1 hwl
        go_wp2
        go_loopg [41] 29 (fun kq v41 w' => ∃ (q : Nat) (fo : Option (List UInt8)), v41 = .int .i64 (q : Int) ∧ Aside0 (q ≤ 28 ∧ 29 ≤ kq + q) ∧ Aside0 (fo = (markList.take q).find? fun m => m.isPrefixOf (s.drop j)) ∧ Aside0 (Sat W0 w' (blk g4 71 #[.int .i64 (mkK fo), .string (bs (fo.getD [])), .int .i64 0, .int .i64 l1, .int .i64 c1] :: lxB g s J l1 c1 :: blk g2 71 #[.int .i64 0, .string ⟨#[]⟩, .int .i64 0, .int .i64 0, .int .i64 0] :: L)))
        case atStart => exact ⟨0, none, rfl, ⟨by omega, by omega⟩, ⟨rfl⟩, ⟨HS⟩⟩
        case round =>
          clear HS hwc
          obtain ⟨q, fo, rfl, HQ, HFO, HS'⟩ := hrel
          have HS := HS'.out
          clear HS'
          cases gk with
          | zero => have := HQ.out; omega
          | succ k1 =>
            by_cases hq : q < 28
            · have hql : q < markList.length := hq
              obtain ⟨wx, hwx⟩ : ∃ z, markList[q] = z := ⟨_, rfl⟩
              have hx := HW1.out q wx (by rw [List.getElem?_eq_getElem hql, hwx])
              have hx' := cell_below hx (HOL.out _ _ _ _ HS)
              have HNX := Aside0.mk (show ((markList.take (q + 1)).find? fun m => m.isPrefixOf (s.drop j)) = orF fo (wx.isPrefixOf (s.drop j)) wx from by
                rw [List.take_succ_eq_append_getElem hql, hwx, find_snoc, ← HFO.out])
              have HWX := Aside0.mk (show wx ≠ [] from by rw [← hwx]; exact mark_ne _ (List.getElem_mem hql))
              have hwq : wrap64 ((q : Int) + 1) = (q : Int) + 1 := w64 _ (by omega) (by omega)
              obtain ⟨QI, hQI⟩ : ∃ z : Int, z = (q : Int) := ⟨_, rfl⟩
              have HQI := Aside0.mk hQI
              have hqt : QI.toNat = q := by omega
              rw [← hqt] at hx'
              rw [← hQI] at hwq ⊢
              have c1_ : decide (QI < 28) = true := decide_eq_true (by omega)
              have r1 : (0 ≤ QI) = True := eq_true (by omega)
              have r2 : (QI < 28) = True := eq_true (by omega)
              have HHW := Aside0.mk (HHP.out wx)
              have e2 : ∀ l : List UInt8, (bs l).toList = l := fun l => by simp [bs]
              clear hx hwx hqt hQI
              cases fo with
              | some mt =>
                have hmt : mt ≠ [] := by
                  have h1 := HFO.out.symm
                  exact mark_ne _ (List.mem_of_mem_take (List.mem_of_find?_eq_some h1))
                have hE : (bs mt).toList.isEmpty = false := by rw [e2]; cases mt with | nil => exact absurd rfl hmt | cons => rfl
                have HNN' := Aside0.mk (HNX.out.trans (rfl : _ = some mt))
                change Sat W0 _ (blk g4 71 #[.int .i64 4, .string (bs mt), .int .i64 0, .int .i64 l1, .int .i64 c1] :: _) at HS
                clear hmt e2
                have cb := HS.cell 0 rfl
                have cb1 := HS.cell 1 rfl
                go_wp2
                go_quiet (fail)
                refine then_drawnN HS (fun w HS => ?_)
                go_wp2
                go_roundg k1
                case measure => exact Nat.lt_succ_self _
                case rel => exact ⟨q + 1, some mt, by first | (rw [hwq, HQI.out]; rfl) | (rw [HQI.out]; rfl), ⟨by omega, by have := HQ.out; omega⟩, ⟨HNN'.out.symm⟩, ⟨HS⟩⟩
              | none =>
                have hE : (⟨#[]⟩ : ByteArray).toList.isEmpty = true := by rw [show (⟨#[]⟩ : ByteArray) = bs [] from rfl, e2]; rfl
                change Sat W0 _ (blk g4 71 #[.int .i64 0, .string ⟨#[]⟩, .int .i64 0, .int .i64 l1, .int .i64 c1] :: _) at HS
                clear e2
                have cb := HS.cell 0 rfl
                have cb1 := HS.cell 1 rfl
                cases hp : wx.isPrefixOf (s.drop j) with
                | true =>
                  rw [hp] at HHW
                  have HNN' := Aside0.mk (HNX.out.trans (by rw [hp]; rfl : _ = some wx))
                  clear hp
                  go_wp2
                  go_quiet (first | (go_at_call 58; refine (HHW.out _).mono ?_; rintro e w' ⟨rfl, ⟨nd, rfl⟩⟩; (try first | exact ⟨rfl, _, World.drewN_drewN _ _ _⟩ | exact ⟨rfl, _, Eq.trans (World.drewN_drewN _ _ _) (congrArg (World.drewN _) (Nat.add_assoc _ _ _))⟩)))
                  refine then_drawnN HS (fun w HS => ?_)
                  go_wp2_with (first | ((with_reducible refine gate_store (t := 69) (p := 62) rfl ?_); go_must (refine ev_storeN HS 0 rfl rfl 0 69 (.tmp 62) (.const (.int .i64 4)) rfl rfl rfl (.int .i64 4) ?hv [.int .i64 4] rfl (by kernel_rfl) (by simp) ?h1 #[.int .i64 4, .string ⟨#[]⟩, .int .i64 0, .int .i64 l1, .int .i64 c1] rfl ?_); (case hv => first | rfl | (go_simp; done) | (go_simp; rfl)); (case h1 => simp [Value.oneCell']); clear HS; intro w HS) | ((with_reducible refine gate_store (t := 9) (p := 63) rfl ?_); go_must (refine ev_storeN HS 0 rfl rfl 1 9 (.tmp 63) (.tmp 61) rfl rfl rfl (.string (bs wx)) ?hv [.string (bs wx)] rfl (by kernel_rfl) (by simp) ?h1 #[.int .i64 4, .string (bs wx), .int .i64 0, .int .i64 l1, .int .i64 c1] rfl ?_); (case hv => first | rfl | (go_simp; done) | (go_simp; rfl)); (case h1 => simp [Value.oneCell']); clear HS; intro w HS))
                  go_roundg k1
                  case measure => exact Nat.lt_succ_self _
                  case rel => exact ⟨q + 1, some wx, by first | (rw [hwq, HQI.out]; rfl) | (rw [HQI.out]; rfl), ⟨by omega, by have := HQ.out; omega⟩, ⟨HNN'.out.symm⟩, ⟨HS⟩⟩
                | false =>
                  rw [hp] at HHW
                  have HNN' := Aside0.mk (HNX.out.trans (by rw [hp]; rfl : _ = none))
                  clear hp
                  go_wp2
                  go_quiet (first | (go_at_call 58; refine (HHW.out _).mono ?_; rintro e w' ⟨rfl, ⟨nd, rfl⟩⟩; (try first | exact ⟨rfl, _, World.drewN_drewN _ _ _⟩ | exact ⟨rfl, _, Eq.trans (World.drewN_drewN _ _ _) (congrArg (World.drewN _) (Nat.add_assoc _ _ _))⟩)))
                  refine then_drawnN HS (fun w HS => ?_)
                  go_wp2
                  go_roundg k1
                  case measure => exact Nat.lt_succ_self _
                  case rel => exact ⟨q + 1, none, by first | (rw [hwq, HQI.out]; rfl) | (rw [HQI.out]; rfl), ⟨by omega, by have := HQ.out; omega⟩, ⟨HNN'.out.symm⟩, ⟨HS⟩⟩
            · have hq28 : q = 28 := by have := HQ.out; omega
              subst hq28
              have hfo : fo = markList.find? fun m => m.isPrefixOf (s.drop j) := HFO.out
              have c1_ : decide ((28 : Int) < 28) = false := by decide
              cases fo with
              | none =>
                have HNX := Aside0.mk (show nxtP (s.drop j) l1 c1 n = .err 10 n from by
                  obtain ⟨t, ht⟩ := HDR.out
                  have hm : markP (X :: t) = [] := by unfold markP; rw [← ht, ← hfo]; rfl
                  rw [ht]
                  unfold nxtP
                  simp only [HXL.out, HXD.out, hm, Bool.false_eq_true, if_false, if_true])
                change Sat W0 _ (blk g4 71 #[.int .i64 0, .string ⟨#[]⟩, .int .i64 0, .int .i64 l1, .int .i64 c1] :: _) at HS
                clear hfo hq
                have cb := HS.cell 0 rfl
                go_wp2_with (((with_reducible refine gate_store (t := 71) (p := 2) rfl ?_); go_must (refine ev_store HS 2 rfl rfl 71 (.tmp 2) (.tmp 68) rfl rfl rfl [.int .i64 0, .string ⟨#[]⟩, .int .i64 0, .int .i64 0, .int .i64 0] ?hx (by kernel_rfl) (by rfl) ?h1 ?_); (case hx => first | rfl | (go_simp; done)); (case h1 => simp [Value.oneCell']); clear HS; intro w HS))
                refine bodyPost_ret (results_ct (p := 2) (u := 3) rfl _ w g2 71 _ (0, 0) _ rfl (HS.blk 2 rfl) Tryd.underlying71 rfl (by kernel_rfl)) rfl ?_
                obtain ⟨e1, e2, e3, e4, e5, e6⟩ := HF.out
                have HS2 := HS.tail.swap.tail
                rw [e5] at HS2
                exact nextR_err ⟨e1, e2, e3, e4⟩ HNX.out rfl e6 HS2
              | some tx =>
                have hmt : tx ≠ [] := mark_ne _ (List.mem_of_find?_eq_some hfo.symm)
                have hpre := List.find?_some hfo.symm
                obtain ⟨m, hm⟩ : ∃ m, m = tx.length := ⟨_, rfl⟩
                have hjm : j + m ≤ s.length := by
                  have h1 := (List.isPrefixOf_iff_prefix.1 hpre).length_le
                  rw [List.length_drop] at h1
                  have := HJ.out.2
                  omega
                have HM := Aside0.mk (show m = m ∧ m = m ∧ j + m ≤ s.length ∧ tx = tx ∧ tx.length = m from ⟨rfl, rfl, hjm, rfl, hm.symm⟩)
                have HNX := Aside0.mk (show nxtP (s.drop j) l1 c1 n = .tok ⟨4, bs tx, 0, ⟨l1, c1⟩⟩ (n + m) from by
                  obtain ⟨t, ht⟩ := HDR.out
                  have hmk : markP (X :: t) = tx := by unfold markP; rw [← ht, ← hfo]; rfl
                  rw [ht]
                  unfold nxtP
                  simp only [HXL.out, HXD.out, hmk, Bool.false_eq_true, if_false, if_neg hmt]
                  rw [hm])
                have hE : (bs tx).toList.isEmpty = false := by rw [show (bs tx).toList = tx by simp [bs]]; cases tx with | nil => exact absurd rfl hmt | cons => rfl
                change Sat W0 _ (blk g4 71 #[.int .i64 4, .string (bs tx), .int .i64 0, .int .i64 l1, .int .i64 c1] :: _) at HS
                clear hfo hq hmt hpre hm hjm
                have cb := HS.cell 0 rfl
                have HSK := Aside0.mk (fun (w : World) (L : List Chunk) (HS : Sat W0 w (lxB g s J l1 c1 :: L)) => skip_at (n := m) HO2.out HM.out.2.2.1 (by rw [HJ.out.1] at HS; exact HS))
                have htl : ((bs tx).size : Int) = (m : Int) := by rw [bs_size, HM.out.2.2.2.2]
                have htl2 : tx.length = m := HM.out.2.2.2.2
                go_upto_region 29 with (go_at_call 59; refine (HSK.out _ _ (HS.front 1 rfl)).mono ?_; rintro e w_ ⟨rfl, HS_⟩; clear HS; have HS := HS_; clear HS_)
                clear cb htl htl2
                go_wp2_with (first | ((with_reducible refine gate_dst (N := 139) rfl ?_); ((with_reducible refine gate_load (ty := 71) (p := 4) rfl ?_); go_must (refine ev_load HS 1 rfl rfl 71 (.tmp 4) rfl (N := 139) rfl rfl _ Tryd.underlying71 rfl (by kernel_rfl) ?_))) | ((with_reducible refine gate_store (t := 71) (p := 2) rfl ?_); go_must (refine ev_store HS 2 rfl rfl 71 (.tmp 2) (.tmp 139) rfl rfl rfl [.int .i64 4, .string (bs tx), .int .i64 0, .int .i64 l1, .int .i64 c1] ?hx (by kernel_rfl) (by rfl) ?h1 ?_); (case hx => first | rfl | (go_simp; done)); (case h1 => simp [Value.oneCell']); clear HS; intro w HS))
                refine bodyPost_ret (results_ct (p := 2) (u := 3) rfl _ w g2 71 _ (0, 0) _ rfl (HS.blk 2 rfl) Tryd.underlying71 rfl (by kernel_rfl)) rfl ?_
                obtain ⟨e1, e2, e3, e4, e5, e6⟩ := HF.out
                exact nextR_tok (t := ⟨4, bs tx, 0, ⟨l1, c1⟩⟩) (m := m) ⟨e1, e2, e3, e4⟩ HNX.out rfl HM.out.2.2.1 (HS.swap.tail).swap.tail
  · have hjl : j = s.length := by have := HF.out.2.2.2.2.2; omega
    have hJl : J = (s.length : Int) := by have := HF.out.2.2.2.2.1; omega
    subst hJl
    have c1_ : ((s.length : Int) == (s.length : Int)) = true := beq_self_eq_true _
    clear hlt
    have HJL := Aside0.mk hjl
    clear hjl
    go_wp2
    go_quiet (fail)
    refine then_drawnN HS (fun w HS => ?_)
    clear cb
    go_wp2_with (first | ((with_reducible refine gate_dst (N := 29) rfl ?_); ((with_reducible refine gate_load (ty := 71) (p := 4) rfl ?_); go_must (refine ev_load HS 0 rfl rfl 71 (.tmp 4) rfl (N := 29) rfl rfl _ Tryd.underlying71 rfl (by kernel_rfl) ?_))) | ((with_reducible refine gate_store (t := 71) (p := 2) rfl ?_); go_must (refine ev_store HS 2 rfl rfl 71 (.tmp 2) (.tmp 29) rfl rfl rfl [.int .i64 0, .string ⟨#[]⟩, .int .i64 0, .int .i64 l1, .int .i64 c1] ?hx (by kernel_rfl) (by rfl) ?h1 ?_); (case hx => first | rfl | (go_simp; done)); (case h1 => simp [Value.oneCell']); clear HS; intro w HS))
    refine bodyPost_ret (results_ct (p := 2) (u := 3) rfl _ w g2 71 _ (0, 0) _ rfl (HS.blk 2 rfl) Tryd.underlying71 rfl (by kernel_rfl)) rfl ?_
    have HS2 := (HS.tail).swap.tail
    obtain ⟨e1, e2, e3, e4, e5, e6⟩ := HF.out
    have hjl := HJL.out
    refine nextR_tok (t := ⟨0, bs [], 0, ⟨l1, c1⟩⟩) (m := 0) ⟨e1, e2, e3, e4⟩ (by rw [hjl, List.drop_length]; rfl) rfl (by omega) ?_
    rw [List.take_zero, Nat.add_zero, hjl]
    exact HS2
end Go.Proofs.YtenkganofobioaaDoor.B
