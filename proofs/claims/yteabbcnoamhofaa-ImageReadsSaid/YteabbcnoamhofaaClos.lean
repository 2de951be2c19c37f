/- The law's own bytes: its closure lays a number in four bytes behind what there is. -/
import Derived.Test.YteabbcnoamhofaaImgEnc
import Derived.Laws.EntriesVeiled
import Derived.Test.YteabbcnoamhofaaPutLit
namespace Go.Proofs.Yteabbcnoamhofaa.B
open Go.RowKit Go.Proofs.Yteabbcnoamhofaa.Mine Go.Proofs.YteabbcnoamhofaaW.PrintWords Go.Proofs.YteabbcnoamhofaaW.PrintLast Go.Proofs.YteabbcnoamhofaaW.PrintMore
set_option linter.unusedVariables false
set_option linter.unusedSimpArgs false

theorem wp_gen {P : Program} {c : Code} {Q : Exit → Act → World → Prop} {a : Act} {W : World} (S : World → Prop) (hS : S W) (h : ∀ W', S W' → c.wp P Q a W') : c.wp P Q a W := h W hS
theorem box4 {W : World} {g t : Nat} {a b c d : Value} (h : W.heap[g]? = some (.cells #[a, b, c, d] t (0, 0))) : W.cell? ⟨g, 0, none⟩ = some a ∧ W.cell? ⟨g, 1, none⟩ = some b ∧ W.cell? ⟨g, 2, none⟩ = some c ∧ W.cell? ⟨g, 3, none⟩ = some d :=
  ⟨(blk_cell h 0).trans rfl, (blk_cell h 1).trans rfl, (blk_cell h 2).trans rfl, (blk_cell h 3).trans rfl⟩
/-- Blocks of no bytes and no slice are as they were. -/
def Typed (w w' : World) : Prop := ∀ (g : Nat) (cs : Array Value) (t : Nat), t ≠ 5 → t ≠ 41 → w.heap[g]? = some (.cells cs t (0, 0)) → w'.heap[g]? = some (.cells cs t (0, 0))
theorem Typed.trans {a b c : World} (h : Typed a b) (h2 : Typed b c) : Typed a c := fun g cs t h5 h41 hb => h2 g cs t h5 h41 (h g cs t h5 h41 hb)
theorem Typed.of_below {w w' : World} (h : Below w.heap.size w w') : Typed w w' := fun g cs t _ _ hb => blk_below hb h
theorem Typed.set {w : World} {gb : Nat} {cs : Array Value} (h : w.heap[gb]? = some (.cells cs 41 (0, 0))) (v : Value) : Typed w (w.setCell ⟨gb, 0, none⟩ v) := fun g cs' t h5 h41 hb => blk_far hb (show g ≠ gb from fun e => by
  rw [e, h] at hb
  injection hb with hb
  injection hb with _ ht
  exact h41 ht.symm) _
/-- The captured variable: a row of bytes of the law's own. -/
structure BX (w0 W : World) (gb : Nat) (v : Value) (xs : List Int) : Prop where
  bk : W.heap[gb]? = some (.cells #[v] 41 (0, 0))
  row : Kd.R (Kd.int .u8) 5 W w0.heap.size (fun k => k ≠ gb) v xs
  bel : Below w0.heap.size w0 W
  ge : w0.heap.size ≤ gb
theorem BX.below {w0 W W' : World} {gb : Nat} {v : Value} {xs : List Int} (h : BX w0 W gb v xs) (hb : Below W.heap.size W W') : BX w0 W' gb v xs :=
  ⟨blk_below h.bk hb, Kd.R_below h.row hb, below_step h.bel hb, h.ge⟩
theorem byte_at (n : Int) (hn : 0 ≤ n) (j : Nat) : Go.bits .and .i64 (n / 256 ^ j) 255 % 256 = n / 256 ^ j % 256 := by
  have h127 : (BitVec.ofInt 64 255).toNat = 2 ^ 8 - 1 := by decide
  have key : (BitVec.ofInt 64 (n / 256 ^ j) &&& BitVec.ofInt 64 255).toNat = ((n / 256 ^ j) % ((2 ^ 64 : Nat) : Int)).toNat % 2 ^ 8 := by
    rw [BitVec.toNat_and, BitVec.toNat_ofInt, h127, Nat.and_two_pow_sub_one_eq_mod]
  show IntKind.i64.wrap ((BitVec.ofInt 64 (n / 256 ^ j) &&& BitVec.ofInt 64 255).toNat : Nat) % 256 = _
  rw [key, IntKind.wrap_i64]
  omega
set_option maxRecDepth 100000 in
set_option maxHeartbeats 4000000 in
theorem clos_calls (w0 W : World) (gb : Nat) (v : Value) (xs : List Int) (n : Int) (hn : 0 ≤ n) (hn2 : n < 4294967296) (hx : xs.length < 100000) (h : BX w0 W gb v xs) :
    Calls Try.prog 21 #[.int .i64 n, .pointer (some ⟨gb, 0, none⟩)] W fun e W' => e = .returned (.tuple #[]) ∧ Typed W W' ∧ ∃ v', BX w0 W' gb v' (xs ++ n4 n) := by
  have HX := Aside0.mk h
  clear h
  go_enter Try.func21, Try.ntmps21
  go_wp2
  go_loopg [0, 3] 5 (fun kq v0 v3 w' => ∃ (j : Nat) (y : Value), v0 = .int .i64 (n / 256 ^ j) ∧ v3 = .int .i64 (j : Int) ∧ Aside0 (j ≤ 4 ∧ 5 ≤ kq + j) ∧ Aside0 (BX w0 w' gb y (xs ++ (n4 n).take j)) ∧ Aside0 (Typed W w'))
  case atStart => exact ⟨0, v, by simp, rfl, ⟨by omega⟩, ⟨by simpa using HX.out⟩, ⟨Typed.of_below (Below.refl _ _)⟩⟩
  case round =>
    obtain ⟨j, y, rfl, rfl, HM, HB1, HT⟩ := hrel
    cases gk with
    | zero => have := HM.out; omega
    | succ k1 =>
      by_cases hj : j < 4
      · have c1 : decide ((j : Int) < 4) = true := decide_eq_true (by omega)
        obtain ⟨J, hJ⟩ : ∃ J : Int, (j : Int) = J := ⟨_, rfl⟩
        obtain ⟨q, hq⟩ : ∃ q : Int, n / 256 ^ j = q := ⟨_, rfl⟩
        rw [hJ] at c1
        rw [hJ, hq]
        have HJ := Aside0.mk hJ
        have HQ := Aside0.mk hq
        clear hJ hq
        have HX1 := HB1.out
        have hc0 : wr.cell? ⟨gb, 0, none⟩ = some y := (blk_cell HX1.bk 0).trans rfl
        have hf0 := blk_frozen HX1.bk 0
        clear HX1
        have hlen : (xs ++ (n4 n).take j).length < 100010 := by rw [List.length_append, List.length_take, n4_len]; omega
        obtain ⟨zs, hzs⟩ : ∃ zs, xs ++ (n4 n).take j = zs := ⟨_, rfl⟩
        rw [hzs] at HB1 hlen
        go_wp2_with (first | ((with_reducible refine gate_builtin (b := .append) (xs := #[.tmp 8, .tmp 12]) rfl ?_); at_builtin; refine Kd.R_append (Kd.int .u8) (w0 := w0) w0.heap.size rfl (.tmp 8) (.tmp 12) 41 5 (.int .u8 0) 1 rfl Try.underlying41 info5 rfl (by decide) (by omega) y zs (Go.bits .and .i64 q 255 % 256) [.int .u8 (Go.bits .and .i64 q 255 % 256)] (fun k => k ≠ gb) (fun _ => False) rfl rfl ?aP (fun _ hk => hk.elim) ?aF ?aO ?aB ?aS ?aL ?_; (case aP => exact rfl); (case aB => exact HB1.out.bel); (case aF => exact (fun k_ hk => Kd.freshB (g := gb) HB1.out.bk k_ hk)); (case aO => exact HB1.out.row); (case aS => exact below_size HB1.out.bel); (case aL => omega); intro v1 w1 hor hb hg hat; have HN : Aside0 (w1.heap[gb]? = some (.cells #[y] 41 (0, 0)) ∧ Kd.R (Kd.int .u8) 5 w1 w0.heap.size (fun k => k ≠ gb) v1 (zs ++ [Go.bits .and .i64 q 255 % 256]) ∧ Below w0.heap.size w0 w1 ∧ Typed wr w1) := ⟨blk_grown HB1.out.bk hg (Kd.R_away HB1.out.row (fun _ hk => hk)), hor, hb, fun g cs t h5 h41 hbg => blk_grown hbg hg (Kd.R_ne HB1.out.row hbg (fun e => h5 e.symm))⟩; clear hor hb hg hat; obtain ⟨Av, cv, ev⟩ := Kd.R_slice HN.out.2.1; subst ev; have hc1 : w1.cell? ⟨gb, 0, none⟩ = some y := (blk_cell HN.out.1 0).trans rfl; have hf1 := blk_frozen HN.out.1 0))
        go_roundg k1
        case measure => have := HM.out; omega
        case rel =>
          have hqn : q = n / 256 ^ j := HQ.out.symm
          have hq0 : 0 ≤ q := by rw [hqn]; exact Int.ediv_nonneg hn (Int.le_of_lt (Int.pow_pos (by decide)))
          have hq1 : q ≤ n := by rw [hqn]; exact Int.ediv_le_self _ hn
          have e0 : wrap64 (q.tdiv 256) = n / 256 ^ (j + 1) := by
            rw [Int.tdiv_eq_ediv_of_nonneg hq0, w64 (q / 256) (by omega) (by omega), hqn, Int.pow_succ, ← Int.ediv_ediv_of_nonneg (Int.le_of_lt (Int.pow_pos (by decide)))]
          have e3 : wrap64 (J + 1) = ((j + 1 : Nat) : Int) := by rw [← HJ.out, w64 ((j : Int) + 1) (by omega) (by omega)]; rfl
          have hl : (zs ++ [Go.bits .and .i64 q 255 % 256]).length = zs.length + 1 := by simp
          have hrow := HN.out.2.1
          rw [hl] at hrow
          have ezs : zs ++ [Go.bits .and .i64 q 255 % 256] = xs ++ (n4 n).take (j + 1) := by
            rw [← hzs, hqn, byte_at n hn j, List.append_assoc]
            congr 1
            have h4 : j = 0 ∨ j = 1 ∨ j = 2 ∨ j = 3 := by omega
            rcases h4 with rfl | rfl | rfl | rfl
            · simp [n4]
            · simp [n4]
            · simp [n4]
            · simp [n4]
          refine ⟨j + 1, .slice Av (zs.length + 1) cv, by rw [e0], by rw [e3], ⟨by have := HM.out; omega⟩, ⟨⟨blk_put (cs := #[y]) HN.out.1 0 _ rfl, ?_, below_set HN.out.2.2.1 HB1.out.ge, HB1.out.ge⟩⟩, ⟨HT.out.trans (HN.out.2.2.2.trans (Typed.set HN.out.1 _))⟩⟩
          rw [← ezs]
          exact Kd.R_far (p := ⟨gb, 0, none⟩) hrow (fun _ hk => hk) _
      · have c1 : decide ((j : Int) < 4) = false := decide_eq_false (by omega)
        have hj4 : j = 4 := by have := HM.out; omega
        go_wp2
        first | go_end0 | ((try simp only [Exit.inBlock, Exit.then]); refine bodyPost_ret (results_none rfl _ _ _) rfl ?_)
        refine ⟨rfl, HT.out, y, ?_⟩
        have h := HB1.out
        rw [hj4, List.take_of_length_le (by rw [n4_len]; exact Nat.le_refl _)] at h
        exact h
/-- The captured variable when it holds the constant's bytes, which bear the run-time's mark. -/
structure MX (w0 W : World) (gb g : Nat) : Prop where
  bk : W.heap[gb]? = some (.cells #[.slice (some ⟨g, 0, none⟩) 4 4] 41 (0, 0))
  lit : W.heap[g]? = some (.cells lit4 5 (4, 5))
  bel : Below w0.heap.size w0 W
  ge : w0.heap.size ≤ gb
set_option maxRecDepth 100000 in
set_option maxHeartbeats 4000000 in
theorem clos_lit (w0 W : World) (gb g : Nat) (n : Int) (hn : 0 ≤ n) (hn2 : n < 4294967296) (h : MX w0 W gb g) :
    Calls Try.prog 21 #[.int .i64 n, .pointer (some ⟨gb, 0, none⟩)] W fun e W' => e = .returned (.tuple #[]) ∧ Typed W W' ∧ ∃ v', BX w0 W' gb v' ([112, 97, 108, 49] ++ n4 n) := by
  obtain ⟨xs, hxs⟩ : ∃ xs : List Int, xs = [112, 97, 108, 49] := ⟨_, rfl⟩
  have hx : xs.length < 100000 := by rw [hxs]; decide
  rw [← hxs]
  have HXS := Aside0.mk hxs
  clear hxs
  have HX := Aside0.mk h
  clear h
  go_enter Try.func21, Try.ntmps21
  go_wp2
  go_loopg [0, 3] 5 (fun kq v0 v3 w' => ∃ (j : Nat) (y : Value), v0 = .int .i64 (n / 256 ^ j) ∧ v3 = .int .i64 (j : Int) ∧ Aside0 (j ≤ 4 ∧ 5 ≤ kq + j) ∧ Aside0 ((j = 0 ∧ y = .slice (some ⟨g, 0, none⟩) 4 4 ∧ MX w0 w' gb g) ∨ BX w0 w' gb y (xs ++ (n4 n).take j)) ∧ Aside0 (Typed W w'))
  case atStart => exact ⟨0, .slice (some ⟨g, 0, none⟩) 4 4, by simp, rfl, ⟨by omega⟩, ⟨.inl ⟨rfl, rfl, HX.out⟩⟩, ⟨Typed.of_below (Below.refl _ _)⟩⟩
  case round =>
    obtain ⟨j, y, rfl, rfl, HM, HB0, HT⟩ := hrel
    rcases HB0.out with ⟨rfl, rfl, HM1⟩ | HB1
    · cases gk with
      | zero => have := HM.out; omega
      | succ k1 =>
        have HMX := Aside0.mk HM1
        clear HM1 HB0
        have c1 : decide (((0 : Nat) : Int) < 4) = true := by decide
        have e00 : n / 256 ^ 0 = n := by simp
        have hc0 : wr.cell? ⟨gb, 0, none⟩ = some (.slice (some ⟨g, 0, none⟩) 4 4) := (blk_cell HMX.out.bk 0).trans rfl
        have hf0 := blk_frozen HMX.out.bk 0
        obtain ⟨i0, hi0, hzz⟩ := Option.map_eq_some_iff.1 info5
        simp only [Prod.mk.injEq] at hzz
        have HI := Aside0.mk hi0
        have HZ := Aside0.mk hzz
        clear hi0 hzz
        rw [e00]
        go_wp2_with (first | ((with_reducible refine gate_builtin (b := .append) (xs := #[.tmp 8, .tmp 12]) rfl ?_); at_builtin; refine Aside0.out (?_ : Aside0 _)))
        refine ⟨?_⟩
        refine wpList_append_grows _ rfl (.tmp 8) (.tmp 12) 41 rfl 5 i0 (.int .u8 0) 1 1 Try.underlying41 HI.out HZ.out.1 HZ.out.2.1 HZ.out.2.2 rfl (by decide) (some ⟨g, 0, none⟩) 4 4 lit4.toList rfl (fun h => by cases h) rfl (fun b hb j u hj => ?aO) ⟨wr.heap.size, 0, none⟩ 1 1 [.int .u8 (Go.bits .and .i64 n 255 % 256)] rfl rfl (fun j u hj => ?aN) (fun u hu => ?aU) (by decide) (by unfold maxLen; omega) (by decide) ?_
        (case aO => cases hb; rw [Addr.add_lit, Nat.zero_add]; exact (cell_marked (blk_alloc HMX.out.lit _) j).trans (by rw [← hj]; exact Array.getElem?_toList.symm))
        (case aN => rw [Addr.add_lit, Nat.zero_add]; exact (cell_marked (heap_alloc_new wr _) j).trans (by rw [← hj]; exact Array.getElem?_toList.symm))
        (case aU => obtain rfl := List.mem_singleton.mp hu; rfl)
        intro v1 w1 hown hgr
        have hba := below_alloc (Below.refl wr.heap.size wr) (.cells #[.int .u8 (Go.bits .and .i64 n 255 % 256)] 5)
        have hgl : gb < wr.heap.size := blk_lt HMX.out.bk
        have hsz : wr.heap.size ≤ (wr.alloc (.cells #[.int .u8 (Go.bits .and .i64 n 255 % 256)] 5)).heap.size := hba.size
        have ho : w1.ownsRow (wr.alloc (.cells #[.int .u8 (Go.bits .and .i64 n 255 % 256)] 5)).heap.size 5 1 v1 (xs ++ [Go.bits .and .i64 n 255 % 256]).length (encs (Value.int .u8) (xs ++ [Go.bits .and .i64 n 255 % 256])) := by rw [HXS.out]; exact hown
        have hw1 : Below wr.heap.size wr w1 := pw_below_grown hba none hsz hgr (fun k hk => by cases hk)
        have HN : Aside0 (w1.heap[gb]? = some (.cells #[.slice (some ⟨g, 0, none⟩) 4 4] 41 (0, 0)) ∧ Kd.R (Kd.int .u8) 5 w1 w0.heap.size (fun k => k ≠ gb) v1 (xs ++ [Go.bits .and .i64 n 255 % 256]) ∧ Below w0.heap.size w0 w1 ∧ Typed wr w1) := ⟨blk_below HMX.out.bk hw1, Kd.R_lower (Kd.R_of_own ho (fun k hk => by have := own_base ho k hk; omega)) (Nat.le_trans (below_size HMX.out.bel) hsz), below_step HMX.out.bel hw1, Typed.of_below hw1⟩
        clear hown hgr hba hgl hsz ho hw1
        obtain ⟨Av, cv, ev⟩ := Kd.R_slice HN.out.2.1
        subst ev
        have hc1 : w1.cell? ⟨gb, 0, none⟩ = some (.slice (some ⟨g, 0, none⟩) 4 4) := (blk_cell HN.out.1 0).trans rfl
        have hf1 := blk_frozen HN.out.1 0
        have hl5 : (xs ++ [Go.bits .and .i64 n 255 % 256]).length = 5 := by rw [HXS.out]; rfl
        rw [hl5]
        go_wp2
        go_roundg k1
        case measure => have := HM.out; omega
        case rel =>
          have e0 : wrap64 (n.tdiv 256) = n / 256 ^ (0 + 1) := by
            rw [Int.tdiv_eq_ediv_of_nonneg hn, w64 (n / 256) (by omega) (by omega)]; rfl
          have hb0 := byte_at n hn 0
          rw [e00] at hb0
          have hrow := HN.out.2.1
          rw [hl5] at hrow
          refine ⟨1, .slice Av 5 cv, by rw [show (256 : Int) ^ 1 = 256 from rfl], by first | rfl | decide, ⟨by have := HM.out; omega⟩, ⟨.inr ⟨blk_put (cs := #[.slice (some ⟨g, 0, none⟩) 4 4]) HN.out.1 0 _ rfl, ?_, below_set HN.out.2.2.1 HMX.out.ge, HMX.out.ge⟩⟩, ⟨HT.out.trans (HN.out.2.2.2.trans (Typed.set HN.out.1 _))⟩⟩
          rw [show xs ++ (n4 n).take 1 = xs ++ [Go.bits .and .i64 n 255 % 256] by rw [hb0]; rfl]
          exact Kd.R_far (p := ⟨gb, 0, none⟩) hrow (fun _ hk => hk) _
    have HB1 := Aside0.mk HB1
    clear HB0
    cases gk with
    | zero => have := HM.out; omega
    | succ k1 =>
      by_cases hj : j < 4
      · have c1 : decide ((j : Int) < 4) = true := decide_eq_true (by omega)
        obtain ⟨J, hJ⟩ : ∃ J : Int, (j : Int) = J := ⟨_, rfl⟩
        obtain ⟨q, hq⟩ : ∃ q : Int, n / 256 ^ j = q := ⟨_, rfl⟩
        rw [hJ] at c1
        rw [hJ, hq]
        have HJ := Aside0.mk hJ
        have HQ := Aside0.mk hq
        clear hJ hq
        have HX1 := HB1.out
        have hc0 : wr.cell? ⟨gb, 0, none⟩ = some y := (blk_cell HX1.bk 0).trans rfl
        have hf0 := blk_frozen HX1.bk 0
        clear HX1
        have hlen : (xs ++ (n4 n).take j).length < 100010 := by rw [List.length_append, List.length_take, n4_len]; omega
        obtain ⟨zs, hzs⟩ : ∃ zs, xs ++ (n4 n).take j = zs := ⟨_, rfl⟩
        rw [hzs] at HB1 hlen
        go_wp2_with (first | ((with_reducible refine gate_builtin (b := .append) (xs := #[.tmp 8, .tmp 12]) rfl ?_); at_builtin; refine Kd.R_append (Kd.int .u8) (w0 := w0) w0.heap.size rfl (.tmp 8) (.tmp 12) 41 5 (.int .u8 0) 1 rfl Try.underlying41 info5 rfl (by decide) (by omega) y zs (Go.bits .and .i64 q 255 % 256) [.int .u8 (Go.bits .and .i64 q 255 % 256)] (fun k => k ≠ gb) (fun _ => False) rfl rfl ?aP (fun _ hk => hk.elim) ?aF ?aO ?aB ?aS ?aL ?_; (case aP => exact rfl); (case aB => exact HB1.out.bel); (case aF => exact (fun k_ hk => Kd.freshB (g := gb) HB1.out.bk k_ hk)); (case aO => exact HB1.out.row); (case aS => exact below_size HB1.out.bel); (case aL => omega); intro v1 w1 hor hb hg hat; have HN : Aside0 (w1.heap[gb]? = some (.cells #[y] 41 (0, 0)) ∧ Kd.R (Kd.int .u8) 5 w1 w0.heap.size (fun k => k ≠ gb) v1 (zs ++ [Go.bits .and .i64 q 255 % 256]) ∧ Below w0.heap.size w0 w1 ∧ Typed wr w1) := ⟨blk_grown HB1.out.bk hg (Kd.R_away HB1.out.row (fun _ hk => hk)), hor, hb, fun g cs t h5 h41 hbg => blk_grown hbg hg (Kd.R_ne HB1.out.row hbg (fun e => h5 e.symm))⟩; clear hor hb hg hat; obtain ⟨Av, cv, ev⟩ := Kd.R_slice HN.out.2.1; subst ev; have hc1 : w1.cell? ⟨gb, 0, none⟩ = some y := (blk_cell HN.out.1 0).trans rfl; have hf1 := blk_frozen HN.out.1 0))
        go_roundg k1
        case measure => have := HM.out; omega
        case rel =>
          have hqn : q = n / 256 ^ j := HQ.out.symm
          have hq0 : 0 ≤ q := by rw [hqn]; exact Int.ediv_nonneg hn (Int.le_of_lt (Int.pow_pos (by decide)))
          have hq1 : q ≤ n := by rw [hqn]; exact Int.ediv_le_self _ hn
          have e0 : wrap64 (q.tdiv 256) = n / 256 ^ (j + 1) := by
            rw [Int.tdiv_eq_ediv_of_nonneg hq0, w64 (q / 256) (by omega) (by omega), hqn, Int.pow_succ, ← Int.ediv_ediv_of_nonneg (Int.le_of_lt (Int.pow_pos (by decide)))]
          have e3 : wrap64 (J + 1) = ((j + 1 : Nat) : Int) := by rw [← HJ.out, w64 ((j : Int) + 1) (by omega) (by omega)]; rfl
          have hl : (zs ++ [Go.bits .and .i64 q 255 % 256]).length = zs.length + 1 := by simp
          have hrow := HN.out.2.1
          rw [hl] at hrow
          have ezs : zs ++ [Go.bits .and .i64 q 255 % 256] = xs ++ (n4 n).take (j + 1) := by
            rw [← hzs, hqn, byte_at n hn j, List.append_assoc]
            congr 1
            have h4 : j = 0 ∨ j = 1 ∨ j = 2 ∨ j = 3 := by omega
            rcases h4 with rfl | rfl | rfl | rfl
            · simp [n4]
            · simp [n4]
            · simp [n4]
            · simp [n4]
          refine ⟨j + 1, .slice Av (zs.length + 1) cv, by rw [e0], by rw [e3], ⟨by have := HM.out; omega⟩, ⟨.inr ⟨blk_put (cs := #[y]) HN.out.1 0 _ rfl, ?_, below_set HN.out.2.2.1 HB1.out.ge, HB1.out.ge⟩⟩, ⟨HT.out.trans (HN.out.2.2.2.trans (Typed.set HN.out.1 _))⟩⟩
          rw [← ezs]
          exact Kd.R_far (p := ⟨gb, 0, none⟩) hrow (fun _ hk => hk) _
      · have c1 : decide ((j : Int) < 4) = false := decide_eq_false (by omega)
        have hj4 : j = 4 := by have := HM.out; omega
        go_wp2
        first | go_end0 | ((try simp only [Exit.inBlock, Exit.then]); refine bodyPost_ret (results_none rfl _ _ _) rfl ?_)
        refine ⟨rfl, HT.out, y, ?_⟩
        have h := HB1.out
        rw [hj4, List.take_of_length_le (by rw [n4_len]; exact Nat.le_refl _)] at h
        exact h
end Go.Proofs.Yteabbcnoamhofaa.B
