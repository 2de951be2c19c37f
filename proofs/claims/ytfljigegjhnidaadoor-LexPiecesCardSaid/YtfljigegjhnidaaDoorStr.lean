/- strconv.Itoa and FormatUint at base 10, at this program: the shelf's contracts laid here; FormatUint by a walk over the contracts of what it calls. -/
import Derived.Test.YtfljigegjhnidaaDoorLexNX
import Derived.Shelf.Strconv.Itoa3
import Derived.Lib.ItoaMem
import Derived.Lib.LaidTab
import Derived.BigCall
import Derived.BigGuard
import Derived.Lib.Walk
namespace Go.Proofs.YtfljigegjhnidaaDoor.B
open Go.Shelf Go.RowKit Go.Sort Go.Lib
set_option linter.unusedVariables false
def laysItoa_ren : Go.Shelf.Ren := ⟨fun | 171 => 15 | 243 => 18 | 246 => 30 | 283 => 26 | 284 => 27 | 285 => 28 | 286 => 29 | 129 => 34 | 317 => 33 | 318 => 35 | 319 => 36 | 320 => 37 | 337 => 39 | 338 => 40 | n => n, fun | 3 => 3 | 9 => 9 | 2 => 2 | 4 => 4 | 171 => 59 | 0 => 0 | 53 => 40 | 37 => 37 | 5 => 5 | 173 => 62 | 212 => 67 | 51 => 68 | 20 => 20 | 213 => 69 | 46 => 47 | 232 => 72 | 233 => 73 | n => n, fun | 17 => 4 | 18 => 5 | 19 => 6 | n => n⟩
theorem laysItoa : Go.Proofs.LaysM.n171 Tryd.prog laysItoa_ren := {
  mixed := by kernel_rfl,
  f129 := Tryd.func34.trans (congrArg some (by kernel_rfl)),
  f171 := Tryd.func15.trans (congrArg some (by kernel_rfl)),
  f243 := Tryd.func18.trans (congrArg some (by kernel_rfl)),
  f246 := Tryd.func30.trans (congrArg some (by kernel_rfl)),
  f283 := Tryd.func26.trans (congrArg some (by kernel_rfl)),
  f284 := Tryd.func27.trans (congrArg some (by kernel_rfl)),
  f285 := Tryd.func28.trans (congrArg some (by kernel_rfl)),
  f286 := Tryd.func29.trans (congrArg some (by kernel_rfl)),
  f317 := Tryd.func33.trans (congrArg some (by kernel_rfl)),
  f318 := Tryd.func35.trans (congrArg some (by kernel_rfl)),
  f319 := Tryd.func36.trans (congrArg some (by kernel_rfl)),
  f320 := Tryd.func37.trans (congrArg some (by kernel_rfl)),
  f337 := Tryd.func39.trans (congrArg some (by kernel_rfl)),
  f338 := Tryd.func40.trans (congrArg some (by kernel_rfl)),
  t0 := Tryd.underlying0,
  a0 := Tryd.isAgg0,
  z0 := Tryd.sizeOf0,
  v0 := Tryd.zeroValue0,
  t2 := Tryd.underlying2,
  a2 := Tryd.isAgg2,
  z2 := Tryd.sizeOf2,
  v2 := Tryd.zeroValue2,
  t3 := Tryd.underlying3,
  a3 := Tryd.isAgg3,
  z3 := Tryd.sizeOf3,
  v3 := Tryd.zeroValue3,
  t4 := Tryd.underlying4,
  a4 := Tryd.isAgg4,
  z4 := Tryd.sizeOf4,
  v4 := Tryd.zeroValue4,
  t5 := Tryd.underlying5,
  a5 := Tryd.isAgg5,
  z5 := Tryd.sizeOf5,
  v5 := Tryd.zeroValue5,
  t9 := Tryd.underlying9,
  a9 := Tryd.isAgg9,
  z9 := Tryd.sizeOf9,
  v9 := Tryd.zeroValue9,
  t20 := Tryd.underlying20,
  a20 := Tryd.isAgg20,
  z20 := Tryd.sizeOf20,
  v20 := Tryd.zeroValue20,
  t37 := Tryd.underlying37,
  a37 := Tryd.isAgg37,
  z37 := Tryd.sizeOf37,
  v37 := Tryd.zeroValue37,
  t46 := Tryd.underlying47,
  a46 := Tryd.isAgg47,
  z46 := Tryd.sizeOf47,
  v46 := Tryd.zeroValue47,
  t51 := Tryd.underlying68,
  a51 := Tryd.isAgg68,
  z51 := Tryd.sizeOf68,
  v51 := Tryd.zeroValue68,
  t53 := Tryd.underlying40,
  a53 := Tryd.isAgg40,
  z53 := Tryd.sizeOf40,
  v53 := Tryd.zeroValue40,
  t171 := Tryd.underlying59,
  a171 := Tryd.isAgg59,
  z171 := Tryd.sizeOf59,
  v171 := Tryd.zeroValue59,
  t173 := Tryd.underlying62,
  a173 := Tryd.isAgg62,
  z173 := Tryd.sizeOf62,
  v173 := Tryd.zeroValue62,
  t212 := Tryd.underlying67,
  a212 := Tryd.isAgg67,
  z212 := Tryd.sizeOf67,
  v212 := Tryd.zeroValue67,
  t213 := Tryd.underlying69,
  a213 := Tryd.isAgg69,
  z213 := Tryd.sizeOf69,
  t232 := Tryd.underlying72,
  a232 := Tryd.isAgg72,
  z232 := Tryd.sizeOf72,
  v232 := Tryd.zeroValue72,
  t233 := Tryd.underlying73,
  a233 := Tryd.isAgg73,
  z233 := Tryd.sizeOf73,
  v233 := Tryd.zeroValue73,
  g17 := by kernel_rfl,
  g18 := by kernel_rfl,
  g19 := by kernel_rfl,
  i0 := by kernel_rfl,
  i2 := by kernel_rfl,
  i3 := by kernel_rfl,
  i4 := by kernel_rfl,
  i5 := by kernel_rfl,
  i9 := by kernel_rfl,
  i20 := by kernel_rfl,
  i37 := by kernel_rfl,
  i46 := by kernel_rfl,
  i51 := by kernel_rfl,
  i53 := by kernel_rfl,
  i171 := by kernel_rfl,
  i173 := by kernel_rfl,
  i212 := by kernel_rfl,
  i232 := by kernel_rfl,
  i233 := by kernel_rfl,
  m17 := by kernel_rfl,
  m18 := by kernel_rfl,
  m19 := by kernel_rfl }

theorem strconv_Itoa (n : Int) (h0 : -9223372036854775808 ≤ n) (h1 : n ≤ 9223372036854775807) (w : World) (htab : Lib.TabIs Tryd.prog w "internal/strconv.uint64pow10" .u64 Lib.pow10Tab) :
    Calls Tryd.prog 15 #[.int .i64 n] w fun e w' => e = .returned (.string ⟨(Lib.itoa n).toArray⟩) ∧ ∃ k os, w' = grow (w.drewN k) os := Any.strconv_Itoa laysItoa n h0 h1 w htab
theorem small_at (i : Nat) (h : i < 100) (w : World) : Calls Tryd.prog 26 #[.int .i64 i] w fun e w' => e = .returned (.string ⟨(Lib.decDigits i).toArray⟩) ∧ w' = w := Any.internal_strconv_small { laysItoa with } i h w
theorem numDigits_at (u : Nat) (h1 : 1 ≤ u) (h2 : u < 18446744073709551616) (w : World) (htab : Lib.TabIs Tryd.prog w "internal/strconv.uint64pow10" .u64 Lib.pow10Tab) :
    Calls Tryd.prog 27 #[.int .u64 u] w fun e w' => e = .returned (.int .i64 (Lib.nDigits u)) ∧ w' = w := Any.internal_strconv_numDigits { laysItoa with } u h1 h2 w htab
theorem base10_at (blk off cap : Nat) (u : Nat) (d : Array UInt8) (w : World) (hH : Holds (fun (b : UInt8) => Value.int .u8 (b.toNat : Int)) w blk off d) (hu : u < 10 ^ d.size) (hu64 : u < 18446744073709551616) (hsz : d.size < 4611686018427387904) :
    Calls Tryd.prog 28 #[.slice (some ⟨blk, off, none⟩) d.size cap, .int .u64 u] w fun e w' =>
      e = .returned (.tuple #[]) ∧ ∃ (n v' : Nat) (dk : Array UInt8), w' = (putRow (fun (b : UInt8) => Value.int .u8 (b.toNat : Int)) w blk off dk).drewN n ∧ FmtInv d.size u 0 v' dk := Any.internal_strconv_formatBase10 { laysItoa with } blk off cap u d w hH hu hu64 hsz
theorem holds_zero0 (w : World) (T : TypeId) (nd : Nat) (hs : nd ≤ 24) : Holds (fun (b : UInt8) => Value.int .u8 (b.toNat : Int)) (w.alloc (.cells zeros24 T)) w.heap.size 0 (Array.replicate nd (0 : UInt8)) := fun j hj => by
  have hj' : j < nd := by simpa using hj
  refine ⟨?_, World.frozen?_alloc_new _ _ _ _⟩
  rw [World.cell?_alloc_new, zeros24_at _ (by omega), getElem!_pos _ j hj]
  simp
theorem fin_pos0 (w : World) (o : Obj) (dk : Array UInt8) (k : Nat) : ∃ os, (putRow (fun (b : UInt8) => Value.int .u8 (b.toNat : Int)) (w.alloc o) w.heap.size 0 dk).drewN k = grow (w.drewN k) os := by
  rw [alloc_eq_grow]
  obtain ⟨os', _, e⟩ := putRow_grow_new (fun (b : UInt8) => Value.int .u8 (b.toNat : Int)) w #[o] w.heap.size 0 dk (Nat.le_refl _)
  exact ⟨os', by rw [e]; rfl⟩
set_option maxHeartbeats 6400000 in
set_option maxRecDepth 100000 in
theorem formatUint17 (u : Nat) (hu64 : u < 18446744073709551616) (w : World) (htab : Lib.TabIs Tryd.prog w "internal/strconv.uint64pow10" .u64 Lib.pow10Tab) :
    Calls Tryd.prog 17 #[.int .u64 u, .int .i64 10] w fun e w' => e = .returned (.string ⟨(Lib.decDigits u).toArray⟩) ∧ ∃ k os, w' = grow (w.drewN k) os := by
  by_cases hs : u < 100
  · have hs0 : decide ((u : Int) < 100) = true := decide_eq_true (by omega)
    have hs1 : decide (u < 100) = true := decide_eq_true hs
    have hwr : wrap64 (u : Int) = (u : Int) := by unfold wrap64; omega
    go_enter Tryd.func17, Tryd.ntmps17
    go_wp2_with (first | (go_at_call 26; refine (small_at u hs _).mono ?_; rintro e w' ⟨rfl, rfl⟩))
    all_goals first
      | (go_ret; exact ⟨rfl, 0, #[], by simp [World.drewN_zero, grow]⟩)
      | exact ⟨rfl, 0, #[], by simp [World.drewN_zero, grow]⟩
  · have hu1 : 1 ≤ u := by omega
    have hs0 : decide ((u : Int) < 100) = false := decide_eq_false (by omega)
    have hs1 : decide (u < 100) = false := decide_eq_false hs
    have hnd20 : Lib.nDigits u ≤ 20 := by have := Lib.numDigits_eq u hu1 hu64; split at this <;> omega
    have hal : Tryd.prog.arrayLen 59 = 24 := by simp [Program.arrayLen, Tryd.underlying59]
    have hsl2 : ∀ W, (Instr.sliceAt 59 (.pointer (some ⟨w.heap.size, 0, none⟩)) none (some (.int .i64 (Lib.nDigits u : Int))) none).run Tryd.prog W = .ok (.slice (some ⟨w.heap.size, 0, none⟩) (Lib.nDigits u) 24) W := fun W => by
      rw [run_sliceAt_array_h W 59 ⟨w.heap.size, 0, none⟩ (by simp [Program.arrayLen, Program.elem, Tryd.underlying59]) .i64 (Lib.nDigits u : Int) (by omega) (by rw [hal]; omega)]
      go_simp
    have hH0 := holds_zero0 w 59 (Lib.nDigits u) (by omega)
    have hfmt := base10_at w.heap.size 0 24 u (Array.replicate (Lib.nDigits u) 0) (w.alloc (.cells Lib.zeros24 59)) hH0 (by rw [Array.size_replicate]; exact Lib.lt_pow_nDigits u) hu64 (by rw [Array.size_replicate]; omega)
    rw [Array.size_replicate] at hfmt
    have HH0 := Lib.hid hH0
    clear hH0 hal
    go_enter Tryd.func17, Tryd.ntmps17
    go_wp2_with (first
      | (go_at_call 27; refine (numDigits_at u hu1 hu64 _ (Lib.tabIs_alloc htab _)).mono ?_; rintro e w' ⟨rfl, rfl⟩)
      | (go_at_call 28; refine hfmt.mono ?_; rintro e w' ⟨rfl, k, v', dk, rfl, hF⟩; have hcv : (convert 37 9 (.slice (some ⟨w.heap.size, 0, none⟩) (Lib.nDigits u) 24)).run Tryd.prog ((putRow (fun (b : UInt8) => Value.int .u8 (b.toNat : Int)) (w.alloc (.cells Lib.zeros24 59)) w.heap.size 0 dk).drewN k) = .ok (.string ⟨(Lib.decDigits u).toArray⟩) ((putRow (fun (b : UInt8) => Value.int .u8 (b.toNat : Int)) (w.alloc (.cells Lib.zeros24 59)) w.heap.size 0 dk).drewN k) := (by
          have h := run_convert_bytes_back (P := Tryd.prog) ((putRow (fun (b : UInt8) => Value.int .u8 (b.toNat : Int)) (w.alloc (.cells Lib.zeros24 59)) w.heap.size 0 dk).drewN k) 37 9 5 ⟨w.heap.size, 0, none⟩ 24 (Lib.decDigits u) Tryd.underlying37 Tryd.underlying5 Tryd.underlying9 (fun j hj => by
            rw [Lib.row_is_numeral hF j hj, Lib.add_plain, World.cell?_drewN]
            exact cell?_putRow (fun (b : UInt8) => Value.int .u8 (b.toNat : Int)) _ w.heap.size 0 _ dk HH0.out (by rw [hF.size, Array.size_replicate]) j (by rw [hF.size]; rw [Lib.decDigits_length] at hj; exact hj))
          rw [Lib.decDigits_length] at h
          exact h)))
    go_ret
    obtain ⟨os, eo⟩ := fin_pos0 w (.cells Lib.zeros24 59) dk k
    exact ⟨rfl, k, os, eo⟩
theorem below_grow (w : World) (q : Nat) (os : Array Obj) : Below w.heap.size w (grow (w.drewN q) os) :=
  ⟨rfl, rfl, rfl, by show w.heap.size ≤ ((w.drewN q).heap ++ os).size; rw [Array.size_append]; exact Nat.le_add_right _ _, fun i hi => by
    show ((w.drewN q).heap ++ os)[i]? = _
    rw [Array.getElem?_append_left (by exact hi)]
    rfl⟩
theorem formatUint_at (u : Nat) (hu64 : u < 18446744073709551616) (w : World) (htab : Lib.TabIs Tryd.prog w "internal/strconv.uint64pow10" .u64 Lib.pow10Tab) :
    Calls Tryd.prog 14 #[.int .u64 u, .int .i64 10] w fun e w' => e = .returned (.string ⟨(Lib.decDigits u).toArray⟩) ∧ Below w.heap.size w w' := by
  go_enter Tryd.func14, Tryd.ntmps14
  go_wp2_with (first | (go_at_call 17; refine (formatUint17 u hu64 _ (by exact htab)).mono ?_; rintro e w' ⟨rfl, k, os, rfl⟩))
  go_ret
  exact ⟨rfl, by (with_reducible repeat (first | apply pw_below_drewN | apply below_drew1)); exact below_grow _ _ _⟩
theorem itoa_at (n : Int) (h0 : -9223372036854775808 ≤ n) (h1 : n ≤ 9223372036854775807) (w : World) (htab : Lib.TabIs Tryd.prog w "internal/strconv.uint64pow10" .u64 Lib.pow10Tab) :
    Calls Tryd.prog 15 #[.int .i64 n] w fun e w' => e = .returned (.string ⟨(Lib.itoa n).toArray⟩) ∧ Below w.heap.size w w' := by
  refine (strconv_Itoa n h0 h1 w htab).mono ?_
  rintro e w' ⟨rfl, k, os, rfl⟩
  exact ⟨rfl, below_grow _ _ _⟩
abbrev lexLaid5 : List (String × DataW Unit) := [("math/bits.deBruijn32tab", Rows.laid_math_bits_deBruijn32tab), ("math/bits.deBruijn64tab", Rows.laid_math_bits_deBruijn64tab), ("internal/strconv.uint64pow10", Rows.laid_internal_strconv_uint64pow10), ("palings/lex.words", Rows.laid_palings_lex_words), ("palings/lex.marks", Rows.laid_palings_lex_marks)]
abbrev lexLaid7 : List (String × DataW Unit) := [("math/bits.deBruijn32tab", Rows.laid_math_bits_deBruijn32tab), ("math/bits.deBruijn64tab", Rows.laid_math_bits_deBruijn64tab), ("internal/strconv.uint64pow10", Rows.laid_internal_strconv_uint64pow10), ("palings/lex.words", Rows.laid_palings_lex_words), ("palings/lex.marks", Rows.laid_palings_lex_marks), ("palings/palingslaw02.words", Rows.laid_palings_palingslaw02_words), ("palings/palingslaw02.marks", Rows.laid_palings_palingslaw02_marks)]
theorem gPow : Tryd.prog.globalNamed "internal/strconv.uint64pow10" = some 4 := by kernel_rfl
theorem tPow : (Tryd.prog.globals[4]?).map (·.type) = some 67 := by kernel_rfl
theorem pow_of {W : World} {cs : Array Value} {fuel : Nat} {p : List MemPlace} (hv : W.var? Tryd.prog "internal/strconv.uint64pow10" = some cs)
    (hd : DataW.trod (fun _ => ()) Tryd.prog W 0 (fun _ => true) false fuel 67 cs.toList = some (Rows.laid_internal_strconv_uint64pow10, p)) : Lib.TabIs Tryd.prog W "internal/strconv.uint64pow10" .u64 Lib.pow10Tab := by
  have h := Lib.cells_of_tab (k := .u64) (zs := Lib.pow10Tab) (n := 20) (e := 40) Tryd.underlying67 Tryd.underlying40 (by kernel_rfl) (by kernel_rfl) hd
  unfold Lib.TabIs
  rw [hv, ← h]
theorem tab_below {W W' : World} (h : Lib.TabIs Tryd.prog W "internal/strconv.uint64pow10" .u64 Lib.pow10Tab) (hb : Below W.heap.size W W') : Lib.TabIs Tryd.prog W' "internal/strconv.uint64pow10" .u64 Lib.pow10Tab := by
  unfold Lib.TabIs World.var? at h ⊢
  rw [gPow] at h ⊢
  simp only [Option.bind_some] at h ⊢
  have hlt : 4 < W.heap.size := by
    rcases Nat.lt_or_ge 4 W.heap.size with h' | h'
    · exact h'
    · rw [Array.getElem?_eq_none h'] at h; cases h
  rw [hb.block 4 hlt]
  exact h
theorem of_laid5 {W : World} (h : laidMetH Tryd.prog lexLaid5 W) : GLaid W ∧ Lib.TabIs Tryd.prog W "internal/strconv.uint64pow10" .u64 Lib.pow10Tab := by
  rw [MakeChecks.laidMetH_plain _ _ _ (by kernel_rfl)] at h
  obtain ⟨ps, ⟨g0, t0, cs0, f0, p0, q0, hg0, ht0, hv0, hd0, ⟨g1, t1, cs1, f1, p1, q1, hg1, ht1, hv1, hd1, ⟨g2, t2, cs2, f2, p2, q2, hg2, ht2, hv2, hd2, ⟨g3, t3, cs3, f3, p3, q3, hg3, ht3, hv3, hd3, ⟨g4, t4, cs4, f4, p4, q4, hg4, ht4, hv4, hd4, _⟩, _⟩, _⟩, _⟩, _⟩, _⟩ := h
  obtain rfl := Option.some.inj (tPow.symm.trans (by rw [gPow] at hg2; obtain rfl := Option.some.inj hg2; exact ht2))
  obtain rfl := Option.some.inj (tWords.symm.trans (by rw [gWords] at hg3; obtain rfl := Option.some.inj hg3; exact ht3))
  obtain rfl := Option.some.inj (tMarks.symm.trans (by rw [gMarks] at hg4; obtain rfl := Option.some.inj hg4; exact ht4))
  exact ⟨⟨strs_of_var (l := wordList) gWords hv3 rfl hd3, strs_of_var (l := markList) gMarks hv4 rfl hd4⟩, pow_of hv2 hd2⟩
theorem gWords1 : Tryd.prog.globalNamed "palings/palingslaw02.words" = some 1 := by kernel_rfl
theorem tWords1 : (Tryd.prog.globals[1]?).map (·.type) = some 38 := by kernel_rfl
theorem gMarks00 : Tryd.prog.globalNamed "palings/palingslaw02.marks" = some 0 := by kernel_rfl
theorem tMarks00 : (Tryd.prog.globals[0]?).map (·.type) = some 38 := by kernel_rfl
theorem of_laid7 {W : World} (h : laidMetH Tryd.prog lexLaid7 W) : GLaid W ∧ StrsAt W 1 wordList ∧ StrsAt W 0 markList ∧ Lib.TabIs Tryd.prog W "internal/strconv.uint64pow10" .u64 Lib.pow10Tab := by
  rw [MakeChecks.laidMetH_plain _ _ _ (by kernel_rfl)] at h
  obtain ⟨ps, ⟨g0, t0, cs0, f0, p0, q0, hg0, ht0, hv0, hd0, ⟨g1, t1, cs1, f1, p1, q1, hg1, ht1, hv1, hd1, ⟨g2, t2, cs2, f2, p2, q2, hg2, ht2, hv2, hd2, ⟨g3, t3, cs3, f3, p3, q3, hg3, ht3, hv3, hd3, ⟨g4, t4, cs4, f4, p4, q4, hg4, ht4, hv4, hd4, ⟨g5, t5, cs5, f5, p5, q5, hg5, ht5, hv5, hd5, ⟨g6, t6, cs6, f6, p6, q6, hg6, ht6, hv6, hd6, _⟩, _⟩, _⟩, _⟩, _⟩, _⟩, _⟩, _⟩ := h
  obtain rfl := Option.some.inj (tPow.symm.trans (by rw [gPow] at hg2; obtain rfl := Option.some.inj hg2; exact ht2))
  obtain rfl := Option.some.inj (tWords.symm.trans (by rw [gWords] at hg3; obtain rfl := Option.some.inj hg3; exact ht3))
  obtain rfl := Option.some.inj (tMarks.symm.trans (by rw [gMarks] at hg4; obtain rfl := Option.some.inj hg4; exact ht4))
  obtain rfl := Option.some.inj (tWords1.symm.trans (by rw [gWords1] at hg5; obtain rfl := Option.some.inj hg5; exact ht5))
  obtain rfl := Option.some.inj (tMarks00.symm.trans (by rw [gMarks00] at hg6; obtain rfl := Option.some.inj hg6; exact ht6))
  exact ⟨⟨strs_of_var (l := wordList) gWords hv3 rfl hd3, strs_of_var (l := markList) gMarks hv4 rfl hd4⟩, strs_of_var (l := wordList) gWords1 hv5 rfl hd5, strs_of_var (l := markList) gMarks00 hv6 rfl hd6, pow_of hv2 hd2⟩
end Go.Proofs.YtfljigegjhnidaaDoor.B
