/- Lexing: skip, blank, run. -/
import Derived.Test.YtenkganofobioaaDoorLxP
import Derived.Test.YtenkganofobioaaDoorIndex
namespace Go.Proofs.YtenkganofobioaaDoor.B
open Go.RowKit Go.Proofs.YtenkganofobioaaDoor.Mine Go.Proofs.YtenkganofobioaaDoor.Sep Go.Proofs.YtenkganofobioaaDoorW.PrintWords Go.Proofs.YtenkganofobioaaDoorW.PrintLast Go.Proofs.YtenkganofobioaaDoorW.PrintMore
set_option linter.unusedVariables false
set_option linter.unusedSimpArgs false
/-- The lexer's own block: its text, how far it is, where that is. -/
abbrev lxB (g : Nat) (s : List UInt8) (i l c : Int) : Chunk := blk g 104 #[.string (bs s), .int .i64 i, .int .i64 l, .int .i64 c]
theorem bs_at {s : List UInt8} {i : Nat} (h : i < (bs s).size) (h' : i < s.length) : (bs s)[i]'h = s[i] := rfl
theorem inext' {L k1 j : Nat} (hj : j < L) (h : j ≤ L ∧ L + 1 ≤ k1 + 1 + j) : j + 1 ≤ L ∧ L + 1 ≤ k1 + (j + 1) := by omega
theorem pos_step {l c : Int} {s : List UInt8} {i j : Nat} (h : i + j < s.length) : posA l c ((s.drop i).take (j + 1)) = (if s[i + j] = 10 then ((posA l c ((s.drop i).take j)).1 + 1, 1) else ((posA l c ((s.drop i).take j)).1, (posA l c ((s.drop i).take j)).2 + 1)) := by
  have h1 : j < (s.drop i).length := by rw [List.length_drop]; omega
  rw [List.take_succ_eq_append_getElem h1, posA_app, List.getElem_drop]
  by_cases hx : s[i + j] = 10
  · rw [if_pos hx, posA, if_pos hx, posA]
  · rw [if_neg hx, posA, if_neg hx, posA]
set_option maxRecDepth 100000 in
set_option maxHeartbeats 4000000 in
theorem skip_calls {W0 w : World} {L : List Chunk} {g : Nat} {s : List UInt8} {i n : Nat} {l c : Int} (hn : i + n ≤ s.length) (hs : s.length ≤ 4611686018427387904) (hl : 0 ≤ l ∧ l ≤ 2305843009213693952) (hc : 0 ≤ c ∧ c ≤ 2305843009213693952) (hb : n ≤ 1152921504606846976) (HS : Sat W0 w (lxB g s i l c :: L)) :
    Calls Tryd.prog 59 #[.pointer (some ⟨g, 0, none⟩), .int .i64 (n : Int)] w fun r w' => r = .returned (.tuple #[]) ∧ Sat W0 w' (lxB g s ((i + n : Nat) : Int) (posA l c ((s.drop i).take n)).1 (posA l c ((s.drop i).take n)).2 :: L) := by
  have HB := Aside0.mk (And.intro hn (And.intro hs (And.intro hl (And.intro hc hb))))
  clear hn hs hl hc hb
  go_enter Tryd.func59, Tryd.ntmps59
  go_wp2
  go_loopg [5] (n + 1) (fun kq v5 w' => ∃ (j : Nat), v5 = .int .i64 (j : Int) ∧ Aside0 (j ≤ n ∧ n + 1 ≤ kq + j) ∧ Aside0 (Sat W0 w' (lxB g s ((i + j : Nat) : Int) (posA l c ((s.drop i).take j)).1 (posA l c ((s.drop i).take j)).2 :: L)))
  case atStart => exact ⟨0, rfl, ⟨by omega, by omega⟩, ⟨HS⟩⟩
  case round =>
    clear HS
    obtain ⟨j, rfl, HJ, HS'⟩ := hrel
    have HS := HS'.out
    clear HS'
    cases gk with
    | zero => have := HJ.out; omega
    | succ k1 =>
      by_cases hj : j < n
      · have HBJ := HB.out
        have hij : i + j < s.length := by omega
        have hpb := posA_bound (l := l) (c := c) HBJ.2.2.1.1 HBJ.2.2.2.1.1 ((s.drop i).take j)
        have hps := pos_step (l := l) (c := c) hij
        have htl : ((s.drop i).take j).length ≤ n := by rw [List.length_take]; omega
        obtain ⟨PL, hPL⟩ : ∃ z, z = (posA l c ((s.drop i).take j)).1 := ⟨_, rfl⟩
        obtain ⟨PC, hPC⟩ : ∃ z, z = (posA l c ((s.drop i).take j)).2 := ⟨_, rfl⟩
        rw [← hPL, ← hPC] at HS hps hpb
        have hwc : wrap64 (PC + 1) = PC + 1 := w64 _ (by omega) (by omega)
        have HWL := Aside0.mk (show wrap64 (PL + 1) = PL + 1 from w64 _ (by omega) (by omega))
        obtain ⟨I, hI⟩ : ∃ z : Int, z = ((i + j : Nat) : Int) := ⟨_, rfl⟩
        rw [← hI] at HS
        have HWI := Aside0.mk (show wrap64 (I + 1) = I + 1 from w64 _ (by omega) (by omega))
        obtain ⟨J, hJ⟩ : ∃ z : Int, z = (j : Int) := ⟨_, rfl⟩
        rw [← hJ]
        have HWJ := Aside0.mk (show wrap64 (J + 1) = J + 1 from w64 _ (by omega) (by omega))
        have c1_ : decide (J < (n : Int)) = true := decide_eq_true (by omega)
        have hsz := bs_size s
        have h0 : (0 ≤ I) = True := eq_true (by omega)
        have h2 : (I < ((bs s).size : Int)) = True := eq_true (by rw [hsz]; omega)
        have h2' : (I < (s.length : Int)) = True := eq_true (by omega)
        have hbt : I.toNat < (bs s).size := by rw [hsz]; omega
        have hcell : (bs s)[I.toNat]'hbt = s[i + j] := by
          have e : I.toNat = i + j := by omega
          simp only [e]
          rfl
        obtain ⟨X, hX⟩ : ∃ X, s[i + j] = X := ⟨_, rfl⟩
        rw [hX] at hcell hps
        have HPS := Aside0.mk hps
        have HII := Aside0.mk (show I + 1 = ((i + (j + 1) : Nat) : Int) ∧ J + 1 = ((j + 1 : Nat) : Int) ∧ j < n from ⟨by omega, by omega, hj⟩)
        clear hps hpb htl hPL hPC hX hI hJ hij hj HBJ
        have cb := HS.cell 0 rfl
        go_upto_region 3 with ((with_reducible refine gate_store (t := 3) (p := 15) rfl ?_); go_must (refine ev_storeN HS 0 rfl rfl 3 3 (.tmp 15) (.tmp 12) rfl rfl rfl (.int .i64 (PC + 1)) ?hv [.int .i64 (PC + 1)] rfl (by kernel_rfl) (by simp) ?h1 #[.string (bs s), .int .i64 I, .int .i64 PL, .int .i64 (PC + 1)] rfl ?_); (case hv => first | (go_simp; done) | (go_simp; rfl)); (case h1 => simp [Value.oneCell']); clear HS; intro w HS)
        clear cb
        have cb := HS.cell 0 rfl
        cases hx : (((X.toNat : Nat) : Int) == 10) with
        | true =>
          have hx2 : ((((bs s)[I.toNat]'hbt).toNat : Nat) : Int) == 10 := by rw [hcell]; exact hx
          go_quiet (fail)
          refine then_drawnN HS (fun w HS => ?_)
          clear cb
          have cb := HS.cell 0 rfl
          have hwl := HWL.out
          go_upto_region 5 with ((with_reducible refine gate_store (t := 32) (p := 35) rfl ?_); go_must (refine ev_storeN HS 0 rfl rfl 2 32 (.tmp 35) (.tmp 33) rfl rfl rfl (.agg #[.int .i64 (PL + 1), .int .i64 1]) ?hv [.int .i64 (PL + 1), .int .i64 1] rfl (by kernel_rfl) (by simp) ?h1 #[.string (bs s), .int .i64 I, .int .i64 (PL + 1), .int .i64 1] rfl ?_); (case hv => first | (go_simp; done) | (go_simp; rfl)); (case h1 => simp [Value.oneCell']); clear HS; intro w HS)
          clear cb hwl
          have cb := HS.cell 0 rfl
          have hwi := HWI.out
          go_upto_region 6 with ((with_reducible refine gate_store (t := 3) (p := 42) rfl ?_); go_must (refine ev_storeN HS 0 rfl rfl 1 3 (.tmp 42) (.tmp 40) rfl rfl rfl (.int .i64 (I + 1)) ?hv [.int .i64 (I + 1)] rfl (by kernel_rfl) (by simp) ?h1 #[.string (bs s), .int .i64 (I + 1), .int .i64 (PL + 1), .int .i64 1] rfl ?_); (case hv => first | (go_simp; done) | (go_simp; rfl)); (case h1 => simp [Value.oneCell']); clear HS; intro w HS)
          clear cb hwi
          have hwj := HWJ.out
          go_wp2
          go_roundg k1
          case measure => exact Nat.lt_succ_self _
          case rel =>
            refine ⟨j + 1, by rw [HII.out.2.1.symm]; first | rfl | rw [hwj], ⟨inext' HII.out.2.2 HJ.out⟩, ⟨?_⟩⟩
            have e := HPS.out
            rw [if_pos (UInt8.toNat_inj.1 (by have := eq_of_beq hx; have e10 : (10 : UInt8).toNat = 10 := rfl; omega))] at e
            rw [e, ← HII.out.1]
            exact HS
        | false =>
          have hx2 : (((((bs s)[I.toNat]'hbt).toNat : Nat) : Int) == 10) = false := by rw [hcell]; exact hx
          go_quiet (fail)
          refine then_drawnN HS (fun w HS => ?_)
          clear cb
          have cb := HS.cell 0 rfl
          have hwi := HWI.out
          go_upto_region 6 with ((with_reducible refine gate_store (t := 3) (p := 42) rfl ?_); go_must (refine ev_storeN HS 0 rfl rfl 1 3 (.tmp 42) (.tmp 40) rfl rfl rfl (.int .i64 (I + 1)) ?hv [.int .i64 (I + 1)] rfl (by kernel_rfl) (by simp) ?h1 #[.string (bs s), .int .i64 (I + 1), .int .i64 PL, .int .i64 (PC + 1)] rfl ?_); (case hv => first | (go_simp; done) | (go_simp; rfl)); (case h1 => simp [Value.oneCell']); clear HS; intro w HS)
          clear cb hwi
          have hwj := HWJ.out
          go_wp2
          go_roundg k1
          case measure => exact Nat.lt_succ_self _
          case rel =>
            refine ⟨j + 1, by rw [HII.out.2.1.symm]; first | rfl | rw [hwj], ⟨inext' HII.out.2.2 HJ.out⟩, ⟨?_⟩⟩
            have e := HPS.out
            rw [if_neg (by rintro rfl; simp at hx)] at e
            rw [e, ← HII.out.1]
            exact HS
      · have hjj : j = n := by have := HJ.out.1; omega
        subst hjj
        have c1_ : decide ((j : Int) < (j : Int)) = false := decide_eq_false (by omega)
        clear hj HJ
        go_wp2
        go_end0
        exact ⟨rfl, HS⟩
/-- All is as lexing wants it. -/
structure LxOk (s : List UInt8) (i : Nat) (l c : Int) : Prop where
  len : s.length ≤ 65536
  le : i ≤ s.length
  l0 : 1 ≤ l
  l1 : l ≤ (i : Int) + 1
  c0 : 1 ≤ c
  c1 : c ≤ (i : Int) + 1
theorem posA_le {l c : Int} (hc : 0 ≤ c) : ∀ u : List UInt8, (posA l c u).1 ≤ l + u.length ∧ (posA l c u).2 ≤ c + u.length
  | [] => by simp only [posA, List.length_nil]; omega
  | x :: u => by
    rw [posA, List.length_cons]
    split
    · have := posA_le (l := l + 1) (c := 1) (by omega) u
      omega
    · have := posA_le (l := l) (c := c + 1) (by omega) u
      omega
theorem posA_ge {l c : Int} (hl : 1 ≤ l) (hc : 1 ≤ c) : ∀ u : List UInt8, 1 ≤ (posA l c u).1 ∧ 1 ≤ (posA l c u).2
  | [] => by simp only [posA]; omega
  | x :: u => by
    rw [posA]
    split
    · exact posA_ge (l := l + 1) (c := 1) (by omega) (by omega) u
    · exact posA_ge (l := l) (c := c + 1) hl (by omega) u
theorem LxOk.go {s : List UInt8} {i n : Nat} {l c : Int} (h : LxOk s i l c) (hn : i + n ≤ s.length) : LxOk s (i + n) (posA l c ((s.drop i).take n)).1 (posA l c ((s.drop i).take n)).2 := by
  have h1 := posA_le (l := l) (c := c) (by have := h.c0; omega) ((s.drop i).take n)
  have h2 := posA_ge h.l0 h.c0 ((s.drop i).take n)
  have h3 : ((s.drop i).take n).length = n := by rw [List.length_take, List.length_drop]; omega
  rw [h3] at h1
  have := h.l1
  have := h.c1
  exact ⟨h.len, hn, h2.1, by omega, h2.2, by omega⟩
theorem skip_at {W0 w : World} {L : List Chunk} {g : Nat} {s : List UInt8} {i n : Nat} {l c : Int} (h : LxOk s i l c) (hn : i + n ≤ s.length) (HS : Sat W0 w (lxB g s i l c :: L)) :
    Calls Tryd.prog 59 #[.pointer (some ⟨g, 0, none⟩), .int .i64 (n : Int)] w fun r w' => r = .returned (.tuple #[]) ∧ Sat W0 w' (lxB g s ((i + n : Nat) : Int) (posA l c ((s.drop i).take n)).1 (posA l c ((s.drop i).take n)).2 :: L) :=
  skip_calls hn (by have := h.len; omega) ⟨by have := h.l0; omega, by have := h.l1; have := h.len; have := h.le; omega⟩ ⟨by have := h.c0; omega, by have := h.c1; have := h.len; have := h.le; omega⟩ (by have := h.len; omega) HS
theorem bs_drop (s : List UInt8) (i : Nat) : (bs s).extract i (bs s).size = bs (s.drop i) := by
  apply ByteArray.ext
  rw [ByteArray.data_extract]
  simp only [bs, ByteArray.size, List.size_toArray, List.extract_toArray]
  congr 1
  rw [List.extract_eq_take_drop, List.take_of_length_le (by rw [List.length_drop]; exact Nat.le_refl _)]
/-- How many bytes stand ahead of the line's end. -/
def brkN : List UInt8 → Nat
  | [] => 0
  | c :: r => if c = 10 then 0 else 1 + brkN r
theorem brk_le : ∀ r : List UInt8, brkN r ≤ r.length
  | [] => Nat.le_refl _
  | c :: r => by rw [brkN, List.length_cons]; split; · omega
                 · have := brk_le r; omega
theorem blk_true : ∀ r : List UInt8, blkN true r = brkN r + blkN false (r.drop (brkN r))
  | [] => rfl
  | c :: r => by
    rw [blkN, brkN]
    by_cases h : c = 10
    · subst h
      rw [if_pos rfl, if_pos rfl, Nat.zero_add, List.drop_zero, blkN, if_pos (by decide)]
    · rw [if_neg h, if_neg h, blk_true r, Nat.add_comm 1 (brkN r), List.drop_succ_cons]
      omega
theorem blk_comment {r : List UInt8} (h : ([47, 47] : List UInt8).isPrefixOf r = true) : blkN false r = brkN r + blkN false (r.drop (brkN r)) ∧ 0 < brkN r := by
  obtain ⟨r, rfl⟩ := List.isPrefixOf_iff_prefix.1 h
  change blkN false (47 :: 47 :: r) = brkN (47 :: 47 :: r) + blkN false ((47 :: 47 :: r).drop (brkN (47 :: 47 :: r))) ∧ 0 < brkN (47 :: 47 :: r)
  have e : blkN false (47 :: 47 :: r) = 1 + blkN true (47 :: r) := by
    conv => lhs; rw [blkN]
    rw [if_neg (by decide), if_pos ⟨rfl, rfl⟩]
  have e2 : brkN (47 :: 47 :: r) = 1 + brkN (47 :: r) := by
    conv => lhs; rw [brkN]
    rw [if_neg (by decide)]
  rw [e, e2, blk_true, Nat.add_comm 1 (brkN (47 :: r)), List.drop_succ_cons]
  omega
theorem index_brk : ∀ r : List UInt8, (10 ∈ r → Lib.indexByte r 10 = (brkN r : Int)) ∧ (10 ∉ r → Lib.indexByte r 10 = -1 ∧ brkN r = r.length)
  | [] => ⟨fun h => by (cases h), fun _ => ⟨rfl, rfl⟩⟩
  | c :: r => by
    have ih := index_brk r
    have hge := Lib.indexByte_ge r 10
    rw [Lib.indexByte, brkN]
    by_cases h : c = 10
    · subst h
      exact ⟨fun _ => rfl, fun hn => absurd (List.mem_cons_self ..) hn⟩
    · have hb : (c == (10 : UInt8)) = false := beq_eq_false_iff_ne.2 h
      rw [hb, if_neg h]
      constructor
      · intro hm
        have hm' : 10 ∈ r := (List.mem_cons.1 hm).resolve_left (fun e => h e.symm)
        have h1 := ih.1 hm'
        have h2 : (Lib.indexByte r 10 == -1) = false := beq_eq_false_iff_ne.2 (by omega)
        rw [h2, h1]
        simp
        omega
      · intro hm
        have hm' : 10 ∉ r := fun e => hm (List.mem_cons_of_mem _ e)
        have h1 := ih.2 hm'
        rw [h1.1, h1.2]
        simp
        omega
theorem hasprefix_bs (a b : List UInt8) : strings_HasPrefix.f (bs a) (bs b) = some (b.isPrefixOf a) := by
  have hx : stringslite_HasPrefix.f (bs a) (bs b) = some (b.isPrefixOf a) := by
    unfold stringslite_HasPrefix.f
    rw [bs_size, bs_size]
    by_cases h : b.length ≤ a.length
    · rw [if_pos (by omega), if_pos (by omega), if_pos (by omega)]
      have e1 : (bs a).extract 0 ((b.length : Int)).toNat = bs (a.take b.length) := by
        apply ByteArray.ext
        rw [ByteArray.data_extract]
        simp only [bs, List.extract_toArray, Int.toNat_natCast]
        first | done | (congr 1; first | done | rw [List.extract_eq_take_drop, List.drop_zero, Nat.sub_zero])
      rw [e1]
      have e2 : ∀ l : List UInt8, (bs l).toList = l := fun l => by simp [bs]
      rw [e2, e2]
      congr 1
      rw [Bool.eq_iff_iff, beq_iff_eq, List.isPrefixOf_iff_prefix, List.prefix_iff_eq_take, eq_comm]
    · rw [if_neg (by omega)]
      congr 1
      symm
      rw [Bool.eq_false_iff]
      intro hp
      exact h (List.isPrefixOf_iff_prefix.1 hp).length_le
  unfold strings_HasPrefix.f
  rw [hx]
  rfl
theorem index_calls (r : List UInt8) (w : World) : Calls Tryd.prog 71 #[.string (bs r), .int .u8 10] w fun e w' => e = .returned (.int .i64 (Lib.indexByte r 10)) ∧ Drawn0 w w' := by
  have H := Aside0.mk (fun (w : World) => stringslite_IndexByte.calls (bs r) 10 (Lib.indexByte r 10) w rfl)
  go_enter Tryd.func71, Tryd.ntmps71
  go_wp2_with (go_at_call 84; refine (H.out _).mono ?_; rintro e w' ⟨rfl, hd⟩)
  go_ret
  exact ⟨rfl, hd⟩
theorem isB_of {X : UInt8} (h : (((X.toNat : Nat) : Int) == 32) = true ∨ (((X.toNat : Nat) : Int) == 9) = true ∨ (((X.toNat : Nat) : Int) == 10) = true ∨ (((X.toNat : Nat) : Int) == 13) = true) : isB X = true := by
  have f : ∀ k : UInt8, (((X.toNat : Nat) : Int) == ((k.toNat : Nat) : Int)) = true → X = k := fun k hk => UInt8.toNat_inj.1 (by have := eq_of_beq hk; omega)
  rcases h with h | h | h | h
  · rw [f 32 h]; rfl
  · rw [f 9 h]; rfl
  · rw [f 10 h]; rfl
  · rw [f 13 h]; rfl
theorem isB_not {X : UInt8} (h1 : (((X.toNat : Nat) : Int) == 32) = false) (h2 : (((X.toNat : Nat) : Int) == 9) = false) (h3 : (((X.toNat : Nat) : Int) == 10) = false) (h4 : (((X.toNat : Nat) : Int) == 13) = false) : ¬ isB X = true := by
  intro h
  unfold isB at h
  simp only [Bool.or_eq_true, beq_iff_eq] at h
  rcases h with rfl | rfl | rfl | rfl
  · simp at h1
  · simp at h2
  · simp at h3
  · simp at h4
theorem blk_pos {s : List UInt8} {i n m j : Nat} {l c : Int} (hj : j = i + n) : posA l c ((s.drop i).take (n + m)) = posA (posA l c ((s.drop i).take n)).1 (posA l c ((s.drop i).take n)).2 ((s.drop j).take m) := by
  rw [hj, ← posA_app, List.take_add, List.drop_drop]
set_option maxRecDepth 100000 in
set_option maxHeartbeats 4000000 in
theorem blank_calls {W0 w : World} {L : List Chunk} {g : Nat} {s : List UInt8} {i : Nat} {l c : Int} (h : LxOk s i l c) (HS : Sat W0 w (lxB g s i l c :: L)) :
    Calls Tryd.prog 53 #[.pointer (some ⟨g, 0, none⟩)] w fun r w' => r = .returned (.tuple #[]) ∧ Sat W0 w' (lxB g s ((i + blkN false (s.drop i) : Nat) : Int) (posA l c ((s.drop i).take (blkN false (s.drop i)))).1 (posA l c ((s.drop i).take (blkN false (s.drop i)))).2 :: L) := by
  have HO := Aside0.mk h
  clear h
  go_enter Tryd.func53, Tryd.ntmps53
  go_wp2
  go_loopg [] (s.length + 1) (fun kq w' => ∃ (n : Nat), Aside0 (i + n ≤ s.length ∧ s.length + 1 ≤ kq + (i + n)) ∧ Aside0 (blkN false (s.drop i) = n + blkN false (s.drop (i + n))) ∧ Aside0 (Sat W0 w' (lxB g s ((i + n : Nat) : Int) (posA l c ((s.drop i).take n)).1 (posA l c ((s.drop i).take n)).2 :: L)))
  case atStart => exact ⟨0, ⟨by have := HO.out.le; omega, by omega⟩, ⟨by rw [Nat.zero_add]; rfl⟩, ⟨HS⟩⟩
  case round =>
    clear HS
    obtain ⟨n, HN, HBK, HS'⟩ := hrel
    have HS := HS'.out
    clear HS'
    cases gk with
    | zero => have := HN.out; omega
    | succ k1 =>
      have HO2 := Aside0.mk (HO.out.go HN.out.1)
      obtain ⟨PL, hPL⟩ : ∃ z, z = (posA l c ((s.drop i).take n)).1 := ⟨_, rfl⟩
      obtain ⟨PC, hPC⟩ : ∃ z, z = (posA l c ((s.drop i).take n)).2 := ⟨_, rfl⟩
      rw [← hPL, ← hPC] at HS HO2
      obtain ⟨j, hj⟩ : ∃ j, j = i + n := ⟨_, rfl⟩
      rw [← hj] at HS HO2
      have hsz := bs_size s
      obtain ⟨I, hI⟩ : ∃ z : Int, z = (j : Int) := ⟨_, rfl⟩
      rw [← hI] at HS
      by_cases hlt : j < s.length
      · have cb := HS.cell 0 rfl
        have c1_ : decide (I < (s.length : Int)) = true := decide_eq_true (by omega)
        have h0 : (0 ≤ I) = True := eq_true (by omega)
        have h2 : (I < ((bs s).size : Int)) = True := eq_true (by rw [hsz]; omega)
        have h2' : (I < (s.length : Int)) = True := eq_true (by omega)
        have hbt : I.toNat < (bs s).size := by rw [hsz]; omega
        obtain ⟨X, hX⟩ : ∃ X, s[j] = X := ⟨_, rfl⟩
        have hcell : (bs s)[I.toNat]'hbt = X := by
          have e : I.toNat = j := by omega
          simp only [e]
          exact hX
        have HF := Aside0.mk (show j = i + n ∧ I = (j : Int) ∧ PL = (posA l c ((s.drop i).take n)).1 ∧ PC = (posA l c ((s.drop i).take n)).2 ∧ ∃ h : j < s.length, s[j] = X from ⟨hj, hI, hPL, hPC, hlt, hX⟩)
        clear hX hPL hPC hI hlt hj
        go_wp2
        go_quiet (fail)
        refine then_drawnN HS (fun w HS => ?_)
        clear cb
        have cb := HS.cell 0 rfl
        go_wp2
        go_quiet (fail)
        refine then_drawnN HS (fun w HS => ?_)
        clear cb
        have cb := HS.cell 0 rfl
        cases e32 : (((X.toNat : Nat) : Int) == 32) with
        | true =>
          have HISB := Aside0.mk (isB_of (X := X) (.inl e32))
          have HSK := Aside0.mk (fun (w : World) (HS : Sat W0 w (lxB g s I PL PC :: L)) => by rw [HF.out.2.1] at HS; exact skip_at (n := 1) HO2.out (by obtain ⟨_, _, _, _, hlt, _⟩ := HF.out; omega) HS)
          go_wp2_with (go_at_call 59; refine (HSK.out _ HS).mono ?_; rintro e w_ ⟨rfl, HS_⟩; clear HS; have HS := HS_; clear HS_)
          go_roundg k1
          case measure => exact Nat.lt_succ_self _
          case rel =>
            obtain ⟨e1, e2, e3, e4, hlt, hX⟩ := HF.out
            refine ⟨n + 1, ⟨by omega, by have := HN.out; omega⟩, ⟨?_⟩, ⟨?_⟩⟩
            · have h1 := HBK.out
              rw [← e1, drop_get hlt, blkN, if_pos (by rw [hX]; exact HISB.out)] at h1
              rw [h1, ← Nat.add_assoc i n 1, ← e1]
              omega
            · rw [← Nat.add_assoc i n 1, ← e1, blk_pos (i := i) (n := n) (m := 1) (j := j) e1, ← e3, ← e4]
              exact HS
        | false =>
          cases e9 : (((X.toNat : Nat) : Int) == 9) with
          | true =>
            have HISB := Aside0.mk (isB_of (X := X) (.inr <| .inl e9))
            have HSK := Aside0.mk (fun (w : World) (HS : Sat W0 w (lxB g s I PL PC :: L)) => by rw [HF.out.2.1] at HS; exact skip_at (n := 1) HO2.out (by obtain ⟨_, _, _, _, hlt, _⟩ := HF.out; omega) HS)
            go_wp2_with (go_at_call 59; refine (HSK.out _ HS).mono ?_; rintro e w_ ⟨rfl, HS_⟩; clear HS; have HS := HS_; clear HS_)
            go_roundg k1
            case measure => exact Nat.lt_succ_self _
            case rel =>
              obtain ⟨e1, e2, e3, e4, hlt, hX⟩ := HF.out
              refine ⟨n + 1, ⟨by omega, by have := HN.out; omega⟩, ⟨?_⟩, ⟨?_⟩⟩
              · have h1 := HBK.out
                rw [← e1, drop_get hlt, blkN, if_pos (by rw [hX]; exact HISB.out)] at h1
                rw [h1, ← Nat.add_assoc i n 1, ← e1]
                omega
              · rw [← Nat.add_assoc i n 1, ← e1, blk_pos (i := i) (n := n) (m := 1) (j := j) e1, ← e3, ← e4]
                exact HS
          | false =>
            cases e10 : (((X.toNat : Nat) : Int) == 10) with
            | true =>
              have HISB := Aside0.mk (isB_of (X := X) (.inr <| .inr <| .inl e10))
              have HSK := Aside0.mk (fun (w : World) (HS : Sat W0 w (lxB g s I PL PC :: L)) => by rw [HF.out.2.1] at HS; exact skip_at (n := 1) HO2.out (by obtain ⟨_, _, _, _, hlt, _⟩ := HF.out; omega) HS)
              go_wp2_with (go_at_call 59; refine (HSK.out _ HS).mono ?_; rintro e w_ ⟨rfl, HS_⟩; clear HS; have HS := HS_; clear HS_)
              go_roundg k1
              case measure => exact Nat.lt_succ_self _
              case rel =>
                obtain ⟨e1, e2, e3, e4, hlt, hX⟩ := HF.out
                refine ⟨n + 1, ⟨by omega, by have := HN.out; omega⟩, ⟨?_⟩, ⟨?_⟩⟩
                · have h1 := HBK.out
                  rw [← e1, drop_get hlt, blkN, if_pos (by rw [hX]; exact HISB.out)] at h1
                  rw [h1, ← Nat.add_assoc i n 1, ← e1]
                  omega
                · rw [← Nat.add_assoc i n 1, ← e1, blk_pos (i := i) (n := n) (m := 1) (j := j) e1, ← e3, ← e4]
                  exact HS
            | false =>
              cases e13 : (((X.toNat : Nat) : Int) == 13) with
              | true =>
                have HISB := Aside0.mk (isB_of (X := X) (.inr <| .inr <| .inr e13))
                have HSK := Aside0.mk (fun (w : World) (HS : Sat W0 w (lxB g s I PL PC :: L)) => by rw [HF.out.2.1] at HS; exact skip_at (n := 1) HO2.out (by obtain ⟨_, _, _, _, hlt, _⟩ := HF.out; omega) HS)
                go_wp2_with (go_at_call 59; refine (HSK.out _ HS).mono ?_; rintro e w_ ⟨rfl, HS_⟩; clear HS; have HS := HS_; clear HS_)
                go_roundg k1
                case measure => exact Nat.lt_succ_self _
                case rel =>
                  obtain ⟨e1, e2, e3, e4, hlt, hX⟩ := HF.out
                  refine ⟨n + 1, ⟨by omega, by have := HN.out; omega⟩, ⟨?_⟩, ⟨?_⟩⟩
                  · have h1 := HBK.out
                    rw [← e1, drop_get hlt, blkN, if_pos (by rw [hX]; exact HISB.out)] at h1
                    rw [h1, ← Nat.add_assoc i n 1, ← e1]
                    omega
                  · rw [← Nat.add_assoc i n 1, ← e1, blk_pos (i := i) (n := n) (m := 1) (j := j) e1, ← e3, ← e4]
                    exact HS
              | false =>
                have HNB := Aside0.mk (isB_not (X := X) e32 e9 e10 e13)
                clear hcell
                have h3 : (I ≤ (s.length : Int)) = True := eq_true (by obtain ⟨_, _, _, _, hlt, _⟩ := HF.out; omega)
                have h3' : (I ≤ ((bs s).size : Int)) = True := eq_true (by rw [hsz]; obtain ⟨_, _, _, _, hlt, _⟩ := HF.out; omega)
                have hxe : (bs s).extract I.toNat s.length = bs (s.drop j) := by
                  obtain ⟨_, e2, _, _, _, _⟩ := HF.out
                  rw [e2, ← bs_drop, hsz]
                  rfl
                have HXE := Aside0.mk hxe
                have HHP := Aside0.mk (fun (w : World) => show Calls Tryd.prog 58 #[.string ((bs s).extract I.toNat s.length), .string ⟨#[47, 47]⟩] w _ from by rw [hxe]; exact strings_HasPrefix.calls _ (bs [47, 47]) _ w (hasprefix_bs (s.drop j) [47, 47]))
                have HIX := Aside0.mk (fun (w : World) => show Calls Tryd.prog 71 #[.string ((bs s).extract I.toNat s.length), .int .u8 10] w _ from by rw [hxe]; exact index_calls (s.drop j) w)
                clear hxe
                cases hpx : ([47, 47] : List UInt8).isPrefixOf (s.drop j) with
                | false =>
                  rw [hpx] at HHP
                  have HPX := Aside0.mk hpx
                  clear hpx
                  go_wp2
                  go_quiet (first | (go_at_call 58; refine (HHP.out _).mono ?_; rintro e w' ⟨rfl, ⟨nd, rfl⟩⟩; (try first | exact ⟨rfl, _, World.drewN_drewN _ _ _⟩ | exact ⟨rfl, _, Eq.trans (World.drewN_drewN _ _ _) (congrArg (World.drewN _) (Nat.add_assoc _ _ _))⟩)))
                  refine then_drawnN HS (fun w HS => ?_)
                  go_wp2
                  first | go_end0 | refine bodyPost_ret (results_none rfl _ _ _) rfl ?_
                  refine ⟨rfl, ?_⟩
                  obtain ⟨e1, e2, e3, e4, hlt, hX⟩ := HF.out
                  have hz : blkN false (s.drop j) = 0 := by
                    rw [drop_get hlt, blkN, if_neg (by rw [hX]; exact HNB.out), if_neg]
                    rintro ⟨h1, h2⟩
                    have h3 : ([47, 47] : List UInt8).isPrefixOf (s.drop j) = true := by
                      rw [drop_get hlt, h1]
                      cases hd : s.drop (j + 1) with
                      | nil => rw [hd] at h2; cases h2
                      | cons y t => rw [hd] at h2; cases h2; rfl
                    rw [HPX.out] at h3
                    cases h3
                  have hbk := HBK.out
                  rw [← e1, hz, Nat.add_zero] at hbk
                  rw [hbk, ← e1, ← e3, ← e4, ← e2]
                  exact HS
                | true =>
                  rw [hpx] at HHP
                  obtain ⟨hbc, hbp⟩ := blk_comment hpx
                  have hbl := brk_le (s.drop j)
                  have hib := index_brk (s.drop j)
                  obtain ⟨M, hM⟩ : ∃ M, M = brkN (s.drop j) := ⟨_, rfl⟩
                  rw [← hM] at hbc hbp hbl hib
                  rw [List.length_drop] at hbl hib
                  obtain ⟨IX, hIX⟩ : ∃ z, z = Lib.indexByte (s.drop j) 10 := ⟨_, rfl⟩
                  rw [← hIX] at HIX hib
                  have hjl : j < s.length := by obtain ⟨_, _, _, _, hlt, _⟩ := HF.out; exact hlt
                  have HSK := Aside0.mk (fun (w : World) (HS : Sat W0 w (lxB g s I PL PC :: L)) => by rw [HF.out.2.1] at HS; exact skip_at (n := M) HO2.out (by omega) HS)
                  have HFIN := Aside0.mk (show ∀ (w : World), Sat W0 w (lxB g s ((j + M : Nat) : Int) (posA PL PC ((s.drop j).take M)).1 (posA PL PC ((s.drop j).take M)).2 :: L) → (∃ (n : Nat), Aside0 (i + n ≤ s.length ∧ s.length + 1 ≤ k1 + (i + n)) ∧ Aside0 (blkN false (s.drop i) = n + blkN false (s.drop (i + n))) ∧ Aside0 (Sat W0 w (lxB g s ((i + n : Nat) : Int) (posA l c ((s.drop i).take n)).1 (posA l c ((s.drop i).take n)).2 :: L))) from by
                    intro w HS
                    obtain ⟨e1, e2, e3, e4, hlt, hX⟩ := HF.out
                    have h1 := HBK.out
                    rw [← e1, hbc, List.drop_drop, e1, Nat.add_assoc, ← Nat.add_assoc n] at h1
                    refine ⟨n + M, ⟨by omega, by have := HN.out; omega⟩, ⟨h1⟩, ⟨?_⟩⟩
                    rw [← Nat.add_assoc i n M, ← e1, blk_pos (i := i) (n := n) (m := M) (j := j) e1, ← e3, ← e4]
                    exact HS)
                  have hlen : s.length ≤ 65536 := HO.out.len
                  by_cases hnl : 10 ∈ s.drop j
                  · have hix := hib.1 hnl
                    subst hix
                    have hneg : decide ((M : Int) < 0) = false := decide_eq_false (by omega)
                    clear hib hIX hM hbc hbp hbl hnl hjl hpx
                    go_wp2
                    go_quiet (first | (go_at_call 58; refine (HHP.out _).mono ?_; rintro e w' ⟨rfl, ⟨nd, rfl⟩⟩; (try first | exact ⟨rfl, _, World.drewN_drewN _ _ _⟩ | exact ⟨rfl, _, Eq.trans (World.drewN_drewN _ _ _) (congrArg (World.drewN _) (Nat.add_assoc _ _ _))⟩)))
                    refine then_drawnN HS (fun w HS => ?_)
                    clear cb
                    have cb := HS.cell 0 rfl
                    go_wp2
                    go_quiet (first | (go_at_call 71; refine (HIX.out _).mono ?_; rintro e w' ⟨rfl, ⟨nd, rfl⟩⟩; (try first | exact ⟨rfl, _, World.drewN_drewN _ _ _⟩ | exact ⟨rfl, _, Eq.trans (World.drewN_drewN _ _ _) (congrArg (World.drewN _) (Nat.add_assoc _ _ _))⟩)))
                    refine then_drawnN HS (fun w HS => ?_)
                    go_wp2_with (go_at_call 59; refine (HSK.out _ HS).mono ?_; rintro e w_ ⟨rfl, HS_⟩; clear HS; have HS := HS_; clear HS_)
                    go_roundg k1
                    case measure => exact Nat.lt_succ_self _
                    case rel => exact HFIN.out _ HS
                  · have hix := (hib.2 hnl).1
                    have hml := (hib.2 hnl).2
                    subst hix
                    have hneg : decide ((-1 : Int) < 0) = true := by decide
                    have hsub : (s.length : Int) - I = (M : Int) := by have := HF.out.2.1; omega
                    have hw64 : wrap64 ((s.length : Int) - I) = (M : Int) := by rw [hsub]; exact w64 _ (by omega) (by omega)
                    clear hib hIX hM hbc hbp hbl hnl hjl hpx hml hsub
                    go_wp2
                    go_quiet (first | (go_at_call 58; refine (HHP.out _).mono ?_; rintro e w' ⟨rfl, ⟨nd, rfl⟩⟩; (try first | exact ⟨rfl, _, World.drewN_drewN _ _ _⟩ | exact ⟨rfl, _, Eq.trans (World.drewN_drewN _ _ _) (congrArg (World.drewN _) (Nat.add_assoc _ _ _))⟩)))
                    refine then_drawnN HS (fun w HS => ?_)
                    clear cb
                    have cb := HS.cell 0 rfl
                    go_wp2
                    go_quiet (first | (go_at_call 71; refine (HIX.out _).mono ?_; rintro e w' ⟨rfl, ⟨nd, rfl⟩⟩; (try first | exact ⟨rfl, _, World.drewN_drewN _ _ _⟩ | exact ⟨rfl, _, Eq.trans (World.drewN_drewN _ _ _) (congrArg (World.drewN _) (Nat.add_assoc _ _ _))⟩)))
                    refine then_drawnN HS (fun w HS => ?_)
                    clear cb
                    have cb := HS.cell 0 rfl
                    go_wp2
                    go_quiet (fail)
                    refine then_drawnN HS (fun w HS => ?_)
                    go_wp2_with (go_at_call 59; refine (HSK.out _ HS).mono ?_; rintro e w_ ⟨rfl, HS_⟩; clear HS; have HS := HS_; clear HS_)
                    go_roundg k1
                    case measure => exact Nat.lt_succ_self _
                    case rel => exact HFIN.out _ HS
      · have hjl : j = s.length := by have := HN.out; omega
        have c1_ : decide (I < (s.length : Int)) = false := decide_eq_false (by omega)
        have cb := HS.cell 0 rfl
        have HF := Aside0.mk (show j = i + n ∧ I = (j : Int) ∧ PL = (posA l c ((s.drop i).take n)).1 ∧ PC = (posA l c ((s.drop i).take n)).2 ∧ j = s.length from ⟨hj, hI, hPL, hPC, hjl⟩)
        clear hPL hPC hI hlt hj hjl
        go_wp2
        go_quiet (fail)
        refine then_drawnN HS (fun w HS => ?_)
        go_wp2
        go_end0
        refine ⟨rfl, ?_⟩
        obtain ⟨e1, e2, e3, e4, hjl⟩ := HF.out
        have hbk := HBK.out
        rw [← e1, hjl, List.drop_length] at hbk
        rw [show blkN false ([] : List UInt8) = 0 from rfl, Nat.add_zero] at hbk
        rw [hbk, ← e1, ← e3, ← e4, ← e2]
        exact HS
theorem run_step {nm : Bool} {s : List UInt8} {j : Nat} (h : j < s.length) : runN nm (s.drop j) = if (isD s[j] || (nm && isL s[j])) = true then 1 + runN nm (s.drop (j + 1)) else 0 := by rw [drop_get h, runN]
theorem run_le (nm : Bool) : ∀ r : List UInt8, runN nm r ≤ r.length
  | [] => Nat.le_refl _
  | c :: r => by rw [runN, List.length_cons]; split
                 · have := run_le nm r; omega
                 · omega
set_option maxRecDepth 100000 in
set_option maxHeartbeats 4000000 in
theorem run_calls {W0 w : World} {L : List Chunk} {g : Nat} {s : List UInt8} {i : Nat} {l c : Int} (nm : Bool) (h : LxOk s i l c) (HS : Sat W0 w (lxB g s (i : Int) l c :: L)) :
    Calls Tryd.prog 55 #[.pointer (some ⟨g, 0, none⟩), .bool nm] w fun r w' => r = .returned (.int .i64 (runN nm (s.drop i) : Nat)) ∧ Drawn0 w w' := by
  have HO := Aside0.mk h
  have HSA := Aside0.mk HS
  obtain ⟨I, hI⟩ : ∃ z : Int, z = (i : Int) := ⟨_, rfl⟩
  rw [← hI] at HS
  have HI := Aside0.mk hI
  have cb0 := HS.cell 0 rfl
  have hsz := bs_size s
  clear h hI HS
  go_enter Tryd.func55, Tryd.ntmps55
  go_wp2
  go_loopg [5] (s.length + 1) (fun kq v5 w' => ∃ (n : Nat), v5 = .int .i64 (n : Int) ∧ Aside0 (i + n ≤ s.length ∧ s.length + 1 ≤ kq + (i + n)) ∧ Aside0 (runN nm (s.drop i) = n + runN nm (s.drop (i + n))) ∧ Aside0 (Drawn0 w w'))
  case atStart => exact ⟨0, rfl, ⟨by have := HO.out.le; omega, by omega⟩, ⟨by rw [Nat.zero_add]; rfl⟩, ⟨Drawn0.refl _⟩⟩
  case round =>
    obtain ⟨n, rfl, HN, HRN, HD⟩ := hrel
    cases gk with
    | zero => have := HN.out; omega
    | succ k1 =>
      obtain ⟨nd0, rfl⟩ := HD.out
      clear HD
      have hlen := HO.out.len
      obtain ⟨N, hN⟩ : ∃ z : Int, z = (n : Int) := ⟨_, rfl⟩
      rw [← hN]
      obtain ⟨J, hJ⟩ : ∃ z : Int, z = ((i + n : Nat) : Int) := ⟨_, rfl⟩
      have hIJ : I + N = J := by have := HI.out; omega
      have hwa : wrap64 (I + N) = J := by rw [hIJ]; have := HN.out; exact w64 _ (by omega) (by omega)
      have HWN := Aside0.mk (show wrap64 (N + 1) = N + 1 from by have := HN.out; exact w64 _ (by omega) (by omega))
      by_cases hlt : i + n < s.length
      · have c1_ : decide (J < (s.length : Int)) = true := decide_eq_true (by omega)
        have h0 : (0 ≤ J) = True := eq_true (by omega)
        have h2 : (J < ((bs s).size : Int)) = True := eq_true (by rw [hsz]; omega)
        have h2' : (J < (s.length : Int)) = True := eq_true (by omega)
        have hbt : J.toNat < (bs s).size := by rw [hsz]; omega
        obtain ⟨X, hX⟩ : ∃ X, s[i + n] = X := ⟨_, rfl⟩
        have hcell : (bs s)[J.toNat]'hbt = X := by
          have e : J.toNat = i + n := by omega
          simp only [e]
          exact hX
        have HRS := Aside0.mk (show runN nm (s.drop (i + n)) = if (isD X || (nm && isL X)) = true then 1 + runN nm (s.drop (i + (n + 1))) else 0 from by rw [run_step hlt, hX, Nat.add_assoc])
        have HDG := Aside0.mk (fun (w : World) => lex_digit.calls (X.toNat : Int) (isD X) w (digit_bs X))
        have HLT := Aside0.mk (fun (w : World) => lex_letter.calls (X.toNat : Int) (isL X) w (letter_bs X))
        have HE := Aside0.mk (show N = (n : Int) ∧ i + n < s.length from ⟨hN, hlt⟩)
        clear hX hIJ hN hJ hlt
        cases hd : isD X with
        | true =>
          rw [hd] at HDG
          have HX := Aside0.mk hd
          clear hd
          go_wp2
          go_quiet (first | (go_at_call 56; refine (HDG.out _).mono ?_; rintro e w' ⟨rfl, ⟨nd, rfl⟩⟩; (try first | exact ⟨rfl, _, World.drewN_drewN _ _ _⟩ | exact ⟨rfl, _, Eq.trans (World.drewN_drewN _ _ _) (congrArg (World.drewN _) (Nat.add_assoc _ _ _))⟩)) | (go_at_call 54; refine (HLT.out _).mono ?_; rintro e w' ⟨rfl, ⟨nd, rfl⟩⟩; (try first | exact ⟨rfl, _, World.drewN_drewN _ _ _⟩ | exact ⟨rfl, _, Eq.trans (World.drewN_drewN _ _ _) (congrArg (World.drewN _) (Nat.add_assoc _ _ _))⟩)))
          have hwn := HWN.out
          go_wp2
          go_roundg k1
          case measure => exact Nat.lt_succ_self _
          case rel =>
            obtain ⟨e1, hlt⟩ := HE.out
            refine ⟨n + 1, by first | (rw [hwn, e1]; rfl) | (rw [e1]; rfl), ⟨by omega, by have := HN.out; omega⟩, ⟨?_⟩, ⟨by repeat (first | exact Drawn0.refl _ | apply Drawn0.step | exact ⟨_, rfl⟩ | exact ⟨_, World.drewN_drewN _ _ _⟩)⟩⟩
            have h1 := HRN.out
            rw [HRS.out, if_pos (by rw [HX.out]; rfl)] at h1
            omega
        | false =>
          rw [hd] at HDG
          have HX := Aside0.mk hd
          clear hd
          cases nm with
          | false =>
            go_wp2
            go_quiet (first | (go_at_call 56; refine (HDG.out _).mono ?_; rintro e w' ⟨rfl, ⟨nd, rfl⟩⟩; (try first | exact ⟨rfl, _, World.drewN_drewN _ _ _⟩ | exact ⟨rfl, _, Eq.trans (World.drewN_drewN _ _ _) (congrArg (World.drewN _) (Nat.add_assoc _ _ _))⟩)) | (go_at_call 54; refine (HLT.out _).mono ?_; rintro e w' ⟨rfl, ⟨nd, rfl⟩⟩; (try first | exact ⟨rfl, _, World.drewN_drewN _ _ _⟩ | exact ⟨rfl, _, Eq.trans (World.drewN_drewN _ _ _) (congrArg (World.drewN _) (Nat.add_assoc _ _ _))⟩)))
            go_wp2
            go_ret
            obtain ⟨e1, hlt⟩ := HE.out
            refine ⟨?_, by repeat (first | exact Drawn0.refl _ | apply Drawn0.step | exact ⟨_, rfl⟩ | exact ⟨_, World.drewN_drewN _ _ _⟩)⟩
            have h1 := HRN.out
            rw [HRS.out, if_neg (by rw [HX.out]; simp), Nat.add_zero] at h1
            rw [h1, ← e1]
            rfl
          | true =>
            cases hl : isL X with
            | true =>
              rw [hl] at HLT
              have HY := Aside0.mk hl
              clear hl
              go_wp2
              go_quiet (first | (go_at_call 56; refine (HDG.out _).mono ?_; rintro e w' ⟨rfl, ⟨nd, rfl⟩⟩; (try first | exact ⟨rfl, _, World.drewN_drewN _ _ _⟩ | exact ⟨rfl, _, Eq.trans (World.drewN_drewN _ _ _) (congrArg (World.drewN _) (Nat.add_assoc _ _ _))⟩)) | (go_at_call 54; refine (HLT.out _).mono ?_; rintro e w' ⟨rfl, ⟨nd, rfl⟩⟩; (try first | exact ⟨rfl, _, World.drewN_drewN _ _ _⟩ | exact ⟨rfl, _, Eq.trans (World.drewN_drewN _ _ _) (congrArg (World.drewN _) (Nat.add_assoc _ _ _))⟩)))
              have hwn := HWN.out
              go_wp2
              go_roundg k1
              case measure => exact Nat.lt_succ_self _
              case rel =>
                obtain ⟨e1, hlt⟩ := HE.out
                refine ⟨n + 1, by first | (rw [hwn, e1]; rfl) | (rw [e1]; rfl), ⟨by omega, by have := HN.out; omega⟩, ⟨?_⟩, ⟨by repeat (first | exact Drawn0.refl _ | apply Drawn0.step | exact ⟨_, rfl⟩ | exact ⟨_, World.drewN_drewN _ _ _⟩)⟩⟩
                have h1 := HRN.out
                rw [HRS.out, if_pos (by rw [HX.out, HY.out]; rfl)] at h1
                omega
            | false =>
              rw [hl] at HLT
              have HY := Aside0.mk hl
              clear hl
              go_wp2
              go_quiet (first | (go_at_call 56; refine (HDG.out _).mono ?_; rintro e w' ⟨rfl, ⟨nd, rfl⟩⟩; (try first | exact ⟨rfl, _, World.drewN_drewN _ _ _⟩ | exact ⟨rfl, _, Eq.trans (World.drewN_drewN _ _ _) (congrArg (World.drewN _) (Nat.add_assoc _ _ _))⟩)) | (go_at_call 54; refine (HLT.out _).mono ?_; rintro e w' ⟨rfl, ⟨nd, rfl⟩⟩; (try first | exact ⟨rfl, _, World.drewN_drewN _ _ _⟩ | exact ⟨rfl, _, Eq.trans (World.drewN_drewN _ _ _) (congrArg (World.drewN _) (Nat.add_assoc _ _ _))⟩)))
              go_wp2
              go_ret
              obtain ⟨e1, hlt⟩ := HE.out
              refine ⟨?_, by repeat (first | exact Drawn0.refl _ | apply Drawn0.step | exact ⟨_, rfl⟩ | exact ⟨_, World.drewN_drewN _ _ _⟩)⟩
              have h1 := HRN.out
              rw [HRS.out, if_neg (by rw [HX.out, HY.out]; simp), Nat.add_zero] at h1
              rw [h1, ← e1]
              rfl
      · have hjl : i + n = s.length := by have := HN.out.1; omega
        have c1_ : decide (J < (s.length : Int)) = false := decide_eq_false (by omega)
        have HE := Aside0.mk (show N = (n : Int) ∧ i + n = s.length from ⟨hN, hjl⟩)
        clear hIJ hN hJ hlt hjl
        go_wp2
        go_quiet (fail)
        go_wp2
        go_ret
        obtain ⟨e1, hjl⟩ := HE.out
        refine ⟨?_, by repeat (first | exact Drawn0.refl _ | apply Drawn0.step | exact ⟨_, rfl⟩ | exact ⟨_, World.drewN_drewN _ _ _⟩)⟩
        have h1 := HRN.out
        rw [hjl, List.drop_length, show runN nm ([] : List UInt8) = 0 from rfl, Nat.add_zero] at h1
        rw [h1, ← e1]
        rfl
end Go.Proofs.YtenkganofobioaaDoor.B
