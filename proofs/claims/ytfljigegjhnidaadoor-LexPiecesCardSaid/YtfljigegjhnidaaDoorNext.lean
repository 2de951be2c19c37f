/- What (*lexer).next does: the next token, or why there is none. It asks of the world that lexing's words and signs are laid in it. -/
import Derived.Test.YtfljigegjhnidaaDoorLexNX
import Derived.Laws.Strings
import Derived.Lib.Strings
namespace Go.Proofs.YtfljigegjhnidaaDoor.B
open Go.RowKit Go.Proofs.YtfljigegjhnidaaDoor.Mine Go.Proofs.YtfljigegjhnidaaDoorW.PrintWords Go.Proofs.YtfljigegjhnidaaDoorW.PrintLast Go.Proofs.YtfljigegjhnidaaDoorW.PrintMore
attribute [local go_sem] max2_int min2_int max_two min_two max_three min_three max_four min_four
set_option linter.unusedVariables false
set_option linter.unusedSimpArgs false

abbrev Tok := Int × ByteArray × Int × Int × Int × Int × ByteArray × Int × Int × Int
/-- Behind a token's text: its bytes are skipped. -/
def tokAt (k : Nat) (s : ByteArray) (i l c : Int) (kd : Int) (tx : ByteArray) (n : Int) : Option Tok :=
  (lex_lexer_skip.f k s i l c (tx.size : Int)).bind fun b => some (kd, tx, n, l, c, 0, b.1, b.2.1, b.2.2.1, b.2.2.2)
def nextAt (k : Nat) (s : ByteArray) (i l c : Int) : Option Tok :=
  if i = (s.size : Int) then some (0, (⟨#[]⟩ : ByteArray), 0, l, c, 0, s, i, l, c) else
  if 0 ≤ i then (if i < (s.size : Int) then
    (lex_letter.f (bt s i)).bind fun lt =>
      if lt = true then (lex_lexer_run.f k s i l c true).bind fun r =>
        (if i ≤ wrap64 (i + r.1) then (if wrap64 (i + r.1) ≤ (s.size : Int) then tokAt k s i l c (if isWord (s.extract i.toNat (wrap64 (i + r.1)).toNat) = true then 3 else 1) (s.extract i.toNat (wrap64 (i + r.1)).toNat) 0 else none) else none)
      else (lex_digit.f (bt s i)).bind fun dg =>
        if dg = true then (lex_lexer_run.f k s i l c false).bind fun r =>
          (if i ≤ wrap64 (i + r.1) then (if wrap64 (i + r.1) ≤ (s.size : Int) then (lex_value.f k (s.extract i.toNat (wrap64 (i + r.1)).toNat)).bind fun v => (if v.2 = true then tokAt k s i l c 2 (s.extract i.toNat (wrap64 (i + r.1)).toNat) v.1 else some (0, (⟨#[]⟩ : ByteArray), 0, 0, 0, 11, s, i, l, c)) else none) else none)
        else (if (markOf (s.extract i.toNat s.size)).toList = [] then some (0, (⟨#[]⟩ : ByteArray), 0, 0, 0, 10, s, i, l, c) else tokAt k s i l c 4 (markOf (s.extract i.toNat s.size)) 0)
  else none) else none
def lex_lexer_next.f (k : Nat) (s0_0 : ByteArray) (s0_1 : Int) (s0_2 : Int) (s0_3 : Int) : Option Tok := (lex_lexer_blank.f k s0_0 s0_1 s0_2 s0_3).bind fun b => nextAt k b.1 b.2.1 b.2.2.1 b.2.2.2
theorem lex_lexer_next.mono : ∀ a0 a1 a2 a3 k, LeO (lex_lexer_next.f k a0 a1 a2 a3) (lex_lexer_next.f (k + 1) a0 a1 a2 a3) := by
  intro a0 a1 a2 a3 k
  unfold lex_lexer_next.f nextAt tokAt
  repeat' first
      | (with_reducible exact lex_lexer_blank.mono _ _ _ _ _)
      | (with_reducible exact lex_lexer_skip.mono _ _ _ _ _ _)
      | (with_reducible exact lex_lexer_run.mono _ _ _ _ _ _)
      | (with_reducible exact lex_value.mono _ _)
      | (with_reducible exact LeO.refl _)
      | (with_reducible exact LeO.none _)
      | (with_reducible refine LeO.ite ?_ ?_)
      | (with_reducible refine LeO.bind ?_ (fun _ => ?_))
      | exact lex_lexer_blank.mono _ _ _ _ _
      | exact lex_lexer_skip.mono _ _ _ _ _ _
      | exact lex_lexer_run.mono _ _ _ _ _ _
      | exact lex_value.mono _ _
      | exact LeO.none _
      | refine LeO.ite ?_ ?_
      | refine LeO.bind ?_ (fun _ => ?_)

theorem has_prefix (x : ByteArray) (m : List UInt8) : strings_HasPrefix.f x ⟨m.toArray⟩ = some (m.isPrefixOf x.toList) := by
  have hs : (⟨m.toArray⟩ : ByteArray).size = m.length := by simp [ByteArray.size]
  unfold strings_HasPrefix.f stringslite_HasPrefix.f
  rw [hs]
  by_cases h : (x.size : Int) ≥ (m.length : Int)
  · rw [if_pos h, if_pos (by omega), if_pos h]
    simp only [Option.bind_some, Option.some.injEq]
    rw [Bool.eq_iff_iff, beq_iff_eq, List.isPrefixOf_iff_prefix, List.prefix_iff_eq_take, ByteArray.toList_eq, ByteArray.toList_eq, ByteArray.toList_eq, Lib.extract_data]
    simp [eq_comm]
  · rw [if_neg h]
    simp only [Option.bind_some, Option.some.injEq]
    rw [eq_comm, Bool.eq_false_iff, Ne, List.isPrefixOf_iff_prefix, ByteArray.toList_eq]
    intro hp
    have := hp.length_le
    have hx : x.data.toList.length = x.size := Array.length_toList
    omega

def nextT15 : Bool × List (List Nat × List Nat) := (true, [([], []), ([0], [0]), ([1], [1]), ([2], [2]), ([], []), ([4], [4]), ([5], [5]), ([6], [6]), ([], []), ([8], [8]), ([9], [9]), ([10], [10]), ([], []), ([12], [12]), ([11, 13], [11, 13]), ([3, 7, 14], [3, 7, 14]), ([], []), ([16, 13], [16]), ([0, 1, 2, 3, 4, 5, 6, 7, 8, 9, 10, 11, 12, 13, 14, 15, 16, 17], []), ([18, 15, 17, 0, 1, 2, 3, 4, 5, 6, 7, 8, 9, 10, 11, 12, 13, 14, 15, 16, 17], [15, 18])])
def nextB15 : List Nat := [0, 1, 3, 7, 0, 16, 48, 112, 0, 256, 768, 1792, 0, 4096, 16128, 32767, 0, 77824, 262143, 524287]
theorem next_tab15 : rtab .any (opsOf Tryd.f16 15) = nextT15 := by kernel_rfl
theorem next_bits15 : waitsOk nextT15.2 nextB15 = true := by kernel_rfl
def nextT23 : Bool × List (List Nat × List Nat) := (true, [([], []), ([0], [0]), ([1], [1]), ([2], [2]), ([], []), ([4], [4]), ([5], [5]), ([6], [6]), ([], []), ([8], [8]), ([9], [9]), ([10], [10]), ([], []), ([12], [12]), ([11, 13], [11, 13]), ([3, 7, 14], [3, 7, 14]), ([], []), ([16, 13], [16]), ([0, 1, 2, 3, 4, 5, 6, 7, 8, 9, 10, 11, 12, 13, 14, 15, 16, 17], []), ([18, 15, 17, 0, 1, 2, 3, 4, 5, 6, 7, 8, 9, 10, 11, 12, 13, 14, 15, 16, 17], [15, 18])])
def nextB23 : List Nat := [0, 1, 3, 7, 0, 16, 48, 112, 0, 256, 768, 1792, 0, 4096, 16128, 32767, 0, 77824, 262143, 524287]
theorem next_tab23 : rtab .any (opsOf Tryd.f16 23) = nextT23 := by kernel_rfl
theorem next_bits23 : waitsOk nextT23.2 nextB23 = true := by kernel_rfl
set_option maxHeartbeats 8000000 in
set_option maxRecDepth 100000 in
theorem lex_lexer_next.calls (k : Nat) (g : Nat) (s0_0 : ByteArray) (s0_1 : Int) (s0_2 : Int) (s0_3 : Int) (r1 : Int) (r2 : ByteArray) (r3 : Int) (r4 : Int) (r5 : Int) (r6 : Int) (r7 : ByteArray) (r8 : Int) (r9 : Int) (r10 : Int) (w0 w : World) (hL : GLaid w0) (hI : IsS51 w0 w g s0_0 s0_1 s0_2 s0_3) (hB : Below w0.heap.size w0 w) (h : lex_lexer_next.f k s0_0 s0_1 s0_2 s0_3 = some (r1, r2, r3, r4, r5, r6, r7, r8, r9, r10)) :
    Calls Tryd.prog 16 #[.pointer (some ⟨g, 0, none⟩)] w fun e w' => e = .returned (.tuple #[.agg #[.int .i64 r1, .string r2, .int .i64 r3, .int .i64 r4, .int .i64 r5], .int .i64 r6]) ∧ IsS51 w0 w' g r7 r8 r9 r10 ∧ Below w0.heap.size w0 w' ∧ KeepBut w w' g none := by
  have hu34 := Tryd.underlying34
  have hu26 := Tryd.underlying26
  have hu51 := Tryd.underlying51
  have GL := Aside0.mk hL
  clear hL
  have HI0 := Aside0.mk hI
  have HK := Aside0.mk (KeepBut.refl w g none)
  have HL := Aside0.mk hB.size
  clear hI
  have HW0 := Aside0.mk hB.size
  have HB := Aside0.mk hB
  clear hB
  have H : ((lex_lexer_blank.f k s0_0 s0_1 s0_2 s0_3).bind fun b => nextAt k b.1 b.2.1 b.2.2.1 b.2.2.2) = some (r1, r2, r3, r4, r5, r6, r7, r8, r9, r10) := h
  clear h
  replace H := Option.bind_eq_some_iff.mp H
  obtain ⟨⟨s1, i1, l1, c1⟩, A20, H⟩ := H
  replace H : nextAt k s1 i1 l1 c1 = some (r1, r2, r3, r4, r5, r6, r7, r8, r9, r10) := H
  have A2 := Aside0.mk A20
  clear A20
  unfold nextAt at H
  have HC := Aside0.mk H
  clear H
  go_enter Tryd.func16, Tryd.ntmps16
  go_wp2_with (first | ((with_reducible refine gate_dst (N := 2) rfl ?_); refine box_event ?hg (N := 2) ?hd (cs := #[.int .i64 0, .string (⟨#[]⟩ : ByteArray), .int .i64 0, .int .i64 0, .int .i64 0]) (t := 34) ?hr ?_; (case hd => rfl); (case hg => rfl); (case hr => first | (go_simp; done) | (go_simp; rfl)); intro b2 hg w4 hbox hb; have n0_ := Aside0.mk (IsS51.below (by repeat (first | (with_reducible first | exact HI0.out | apply IsS51.alloc | apply IsS51.drewN | apply IsS51.drew | apply IsS51.set_0 | apply IsS51.set_1 | apply IsS51.set_2 | apply IsS51.set_3) | exact HI0.out)) hb); have n1_ := Aside0.mk (KeepBut.trans (by repeat (first | (with_reducible first | exact HK.out | apply KeepBut.set_ | apply keep_drewN | apply keep_drew | apply keep_alloc) | exact HK.out)) (KeepBut.of_below hb g none) (.inl rfl)); have n2_ := Aside0.mk (below_step (by repeat (first | (with_reducible first | exact HB.out | apply below_alloc | apply pw_below_drewN | apply below_drew1 | refine below_set ?_ (IsS51.ge HI0.out)) | exact HB.out)) hb); have n3_ := Aside0.mk (hbox); have n4_ := Aside0.mk ((by rw [hg]; exact (keep_size (w := w) (g := g) (row := none) (by repeat (first | (with_reducible first | exact HK.out | apply KeepBut.set_ | apply keep_drewN | apply keep_drew | apply keep_alloc) | exact HK.out))) : w.heap.size ≤ b2)); have n5_ := Aside0.mk ((Nat.le_trans HW0.out (by rw [hg]; exact (keep_size (w := w) (g := g) (row := none) (by repeat (first | (with_reducible first | exact HK.out | apply KeepBut.set_ | apply keep_drewN | apply keep_drew | apply keep_alloc) | exact HK.out))) : w.heap.size ≤ b2) : w0.heap.size ≤ b2)); have n6_ := Aside0.mk ((by rw [hg]; exact Nat.ne_of_lt (IsS51.lt (show IsS51 w0 _ g s0_0 s0_1 s0_2 s0_3 from by repeat (first | (with_reducible first | exact HI0.out | apply IsS51.alloc | apply IsS51.drewN | apply IsS51.drew | apply IsS51.set_0 | apply IsS51.set_1 | apply IsS51.set_2 | apply IsS51.set_3) | exact HI0.out))) : g ≠ b2)); have n7_ := Aside0.mk ((by rw [hg]; exact Nat.ne_of_gt (IsS51.lt (show IsS51 w0 _ g s0_0 s0_1 s0_2 s0_3 from by repeat (first | (with_reducible first | exact HI0.out | apply IsS51.alloc | apply IsS51.drewN | apply IsS51.drew | apply IsS51.set_0 | apply IsS51.set_1 | apply IsS51.set_2 | apply IsS51.set_3) | exact HI0.out))) : b2 ≠ g)); clear HI0; clear HK; clear HB; have HI0 := n0_; have HK := n1_; have HB := n2_; have BK120 := n3_; have GW120 := n4_; have GE120 := n5_; have NB0_120 := n6_; have NB120_0 := n7_; clear n0_ n1_ n2_ n3_ n4_ n5_ n6_ n7_; clear hb hbox hg) | ((with_reducible refine gate_callee (f := 19) rfl ?_); refine goesL_ (some 13) rfl rfl Tryd.func19 (by kernel_rfl) rfl #[.pointer (some ⟨g, 0, none⟩)] rfl (by (try simp only [List.map_toArray, List.map_cons, List.map_nil]); first | done | rfl | (simp only [List.length_drop, List.length_take]; rfl)) ?_; (with_reducible refine (lex_lexer_blank.calls k g s0_0 s0_1 s0_2 s0_3 s1 i1 l1 c1 w0 _ ?side1 ?side2 A2.out).mono ?_); (case side1 => repeat (first | (with_reducible first | exact HI0.out | apply IsS51.alloc | apply IsS51.drewN | apply IsS51.drew | apply IsS51.set_0 | apply IsS51.set_1 | apply IsS51.set_2 | apply IsS51.set_3 | refine IsS51.far ?_ NB0_120.out _) | exact HI0.out)); (case side2 => repeat (first | (with_reducible first | exact HB.out | apply below_alloc | apply pw_below_drewN | apply below_drew1 | refine below_set ?_ (IsS51.ge HI0.out) | refine below_set ?_ GE120.out) | exact HB.out)); rintro e w5 ⟨rfl, hi, hb, hk⟩; refine ⟨_, rfl, ?_⟩; have n0_ := Aside0.mk (KeepBut.blk hk (g' := b2) (o := .cells #[.int .i64 0, .string (⟨#[]⟩ : ByteArray), .int .i64 0, .int .i64 0, .int .i64 0] 34 (0, 0)) (by (with_reducible repeat (first | refine blk_drewN ?_ _ | refine blk_drew ?_ | refine blk_alloc ?_ _)); exact BK120.out) NB120_0.out (by simp)); have n1_ := Aside0.mk (KeepBut.trans (by repeat (first | (with_reducible first | exact HK.out | apply KeepBut.set_ | apply keep_drewN | apply keep_drew | apply keep_alloc | refine keep_far ?_ GW120.out _) | exact HK.out)) hk (.inl rfl)); have n2_ := Aside0.mk (hb); have n3_ := Aside0.mk (hi); clear BK120; clear HK; clear HB; clear HI0; have BK120 := n0_; have HK := n1_; have HB := n2_; have HI0 := n3_; clear n0_ n1_ n2_ n3_; (try clear hb); (try clear hb2); (try clear hk); (try clear hi); obtain ⟨HGz6, hgz6⟩ := HI0.out; have hcz6_0 := cellS51_0 HGz6; have hcz6_1 := cellS51_1 HGz6; have hcz6_2 := cellS51_2 HGz6; have hcz6_3 := cellS51_3 HGz6; have hfz6_0 := blk_frozen HGz6 0; have hfz6_1 := blk_frozen HGz6 1; have hfz6_2 := blk_frozen HGz6 2; have hfz6_3 := blk_frozen HGz6 3; clear HGz6 hgz6) | ((with_reducible refine gate_dst (N := 4) rfl ?_); refine box_event ?hg (N := 4) ?hd (cs := #[.int .i64 0, .string (⟨#[]⟩ : ByteArray), .int .i64 0, .int .i64 0, .int .i64 0]) (t := 34) ?hr ?_; (case hd => rfl); (case hg => rfl); (case hr => first | (go_simp; done) | (go_simp; rfl)); intro b4 hg w7 hbox hb; have n0_ := Aside0.mk (IsS51.below (by repeat (first | (with_reducible first | exact HI0.out | apply IsS51.alloc | apply IsS51.drewN | apply IsS51.drew | apply IsS51.set_0 | apply IsS51.set_1 | apply IsS51.set_2 | apply IsS51.set_3 | refine IsS51.far ?_ NB0_120.out _) | exact HI0.out)) hb); have n1_ := Aside0.mk (blk_below (g := b2) (o := .cells #[.int .i64 0, .string (⟨#[]⟩ : ByteArray), .int .i64 0, .int .i64 0, .int .i64 0] 34 (0, 0)) (by (with_reducible repeat (first | refine blk_drewN ?_ _ | refine blk_drew ?_ | refine blk_alloc ?_ _)); exact BK120.out) hb); have n2_ := Aside0.mk (KeepBut.trans (by repeat (first | (with_reducible first | exact HK.out | apply KeepBut.set_ | apply keep_drewN | apply keep_drew | apply keep_alloc | refine keep_far ?_ GW120.out _) | exact HK.out)) (KeepBut.of_below hb g none) (.inl rfl)); have n3_ := Aside0.mk (below_step (by repeat (first | (with_reducible first | exact HB.out | apply below_alloc | apply pw_below_drewN | apply below_drew1 | refine below_set ?_ (IsS51.ge HI0.out) | refine below_set ?_ GE120.out) | exact HB.out)) hb); have n4_ := Aside0.mk (hbox); have n5_ := Aside0.mk ((by rw [hg]; exact (keep_size (w := w) (g := g) (row := none) (by repeat (first | (with_reducible first | exact HK.out | apply KeepBut.set_ | apply keep_drewN | apply keep_drew | apply keep_alloc | refine keep_far ?_ GW120.out _) | exact HK.out))) : w.heap.size ≤ b4)); have n6_ := Aside0.mk ((Nat.le_trans HW0.out (by rw [hg]; exact (keep_size (w := w) (g := g) (row := none) (by repeat (first | (with_reducible first | exact HK.out | apply KeepBut.set_ | apply keep_drewN | apply keep_drew | apply keep_alloc | refine keep_far ?_ GW120.out _) | exact HK.out))) : w.heap.size ≤ b4) : w0.heap.size ≤ b4)); have n7_ := Aside0.mk ((by rw [hg]; exact Nat.ne_of_lt (blk_lt (g := b2) (o := .cells #[.int .i64 0, .string (⟨#[]⟩ : ByteArray), .int .i64 0, .int .i64 0, .int .i64 0] 34 (0, 0)) (by (with_reducible repeat (first | refine blk_drewN ?_ _ | refine blk_drew ?_ | refine blk_alloc ?_ _)); exact BK120.out)) : b2 ≠ b4)); have n8_ := Aside0.mk ((by rw [hg]; exact Nat.ne_of_gt (blk_lt (g := b2) (o := .cells #[.int .i64 0, .string (⟨#[]⟩ : ByteArray), .int .i64 0, .int .i64 0, .int .i64 0] 34 (0, 0)) (by (with_reducible repeat (first | refine blk_drewN ?_ _ | refine blk_drew ?_ | refine blk_alloc ?_ _)); exact BK120.out)) : b4 ≠ b2)); have n9_ := Aside0.mk ((by rw [hg]; exact Nat.ne_of_lt (IsS51.lt (show IsS51 w0 _ g s1 i1 l1 c1 from by repeat (first | (with_reducible first | exact HI0.out | apply IsS51.alloc | apply IsS51.drewN | apply IsS51.drew | apply IsS51.set_0 | apply IsS51.set_1 | apply IsS51.set_2 | apply IsS51.set_3 | refine IsS51.far ?_ NB0_120.out _) | exact HI0.out))) : g ≠ b4)); have n10_ := Aside0.mk ((by rw [hg]; exact Nat.ne_of_gt (IsS51.lt (show IsS51 w0 _ g s1 i1 l1 c1 from by repeat (first | (with_reducible first | exact HI0.out | apply IsS51.alloc | apply IsS51.drewN | apply IsS51.drew | apply IsS51.set_0 | apply IsS51.set_1 | apply IsS51.set_2 | apply IsS51.set_3 | refine IsS51.far ?_ NB0_120.out _) | exact HI0.out))) : b4 ≠ g)); clear HI0; clear BK120; clear HK; clear HB; have HI0 := n0_; have BK120 := n1_; have HK := n2_; have HB := n3_; have BK125 := n4_; have GW125 := n5_; have GE125 := n6_; have NB120_125 := n7_; have NB125_120 := n8_; have NB0_125 := n9_; have NB125_0 := n10_; clear n0_ n1_ n2_ n3_ n4_ n5_ n6_ n7_ n8_ n9_ n10_; clear hb hbox hg; have hnb8 := NB125_120.out; have hnc8 := NB120_125.out; have hnb9 := NB125_0.out; have hnc9 := NB0_125.out; have hcz10_0 : w7.cell? ⟨b4, 0, none⟩ = some (.int .i64 0) := (blk_cell BK125.out 0).trans rfl; have hcz10_1 : w7.cell? ⟨b4, 1, none⟩ = some (.string (⟨#[]⟩ : ByteArray)) := (blk_cell BK125.out 1).trans rfl; have hcz10_2 : w7.cell? ⟨b4, 2, none⟩ = some (.int .i64 0) := (blk_cell BK125.out 2).trans rfl; have hcz10_3 : w7.cell? ⟨b4, 3, none⟩ = some (.int .i64 0) := (blk_cell BK125.out 3).trans rfl; have hcz10_4 : w7.cell? ⟨b4, 4, none⟩ = some (.int .i64 0) := (blk_cell BK125.out 4).trans rfl; have hfz10_0 := blk_frozen BK125.out 0; have hfz10_1 := blk_frozen BK125.out 1; have hfz10_2 := blk_frozen BK125.out 2; have hfz10_3 := blk_frozen BK125.out 3; have hfz10_4 := blk_frozen BK125.out 4; obtain ⟨HGz11, hgz11⟩ := HI0.out; have hcz11_0 := cellS51_0 HGz11; have hcz11_1 := cellS51_1 HGz11; have hcz11_2 := cellS51_2 HGz11; have hcz11_3 := cellS51_3 HGz11; have hfz11_0 := blk_frozen HGz11 0; have hfz11_1 := blk_frozen HGz11 1; have hfz11_2 := blk_frozen HGz11 2; have hfz11_3 := blk_frozen HGz11 3; clear HGz11 hgz11; have hnb12 := NB120_0.out; have hnc12 := NB0_120.out; have hcz13_0 : w7.cell? ⟨b2, 0, none⟩ = some (.int .i64 0) := (blk_cell BK120.out 0).trans rfl; have hcz13_1 : w7.cell? ⟨b2, 1, none⟩ = some (.string (⟨#[]⟩ : ByteArray)) := (blk_cell BK120.out 1).trans rfl; have hcz13_2 : w7.cell? ⟨b2, 2, none⟩ = some (.int .i64 0) := (blk_cell BK120.out 2).trans rfl; have hcz13_3 : w7.cell? ⟨b2, 3, none⟩ = some (.int .i64 0) := (blk_cell BK120.out 3).trans rfl; have hcz13_4 : w7.cell? ⟨b2, 4, none⟩ = some (.int .i64 0) := (blk_cell BK120.out 4).trans rfl; have hfz13_0 := blk_frozen BK120.out 0; have hfz13_1 := blk_frozen BK120.out 1; have hfz13_2 := blk_frozen BK120.out 2; have hfz13_3 := blk_frozen BK120.out 3; have hfz13_4 := blk_frozen BK120.out 4))
  have HS : NS w0 w g b2 b4 := ⟨GW120.out, GW125.out, GE120.out, GE125.out, NB0_120.out, NB0_125.out, NB120_125.out⟩
  have HX0 : NX w0 w w7 g s1 i1 l1 c1 b2 #[.int .i64 0, .string (⟨#[]⟩ : ByteArray), .int .i64 0, .int .i64 0, .int .i64 0] b4 #[.int .i64 0, .string (⟨#[]⟩ : ByteArray), .int .i64 0, .int .i64 0, .int .i64 0] := ⟨HI0.out, HK.out, HB.out, BK120.out, BK125.out⟩
  refine wp_gen (fun W_ => NX w0 w W_ g s1 i1 l1 c1 b2 #[.int .i64 0, .string (⟨#[]⟩ : ByteArray), .int .i64 0, .int .i64 0, .int .i64 0] b4 #[.int .i64 0, .string (⟨#[]⟩ : ByteArray), .int .i64 0, .int .i64 l1, .int .i64 c1]) (by (with_reducible repeat (first | refine NX.drewN ?_ _ | refine NX.drew ?_)); refine NX.put4 (c4 := #[.int .i64 0, .string (⟨#[]⟩ : ByteArray), .int .i64 0, .int .i64 l1, .int .i64 0]) HS ?_ 4 _; (with_reducible repeat (first | refine NX.drewN ?_ _ | refine NX.drew ?_)); refine NX.put4 (c4 := #[.int .i64 0, .string (⟨#[]⟩ : ByteArray), .int .i64 0, .int .i64 0, .int .i64 0]) HS ?_ 3 _; (with_reducible repeat (first | refine NX.drewN ?_ _ | refine NX.drew ?_)); refine NX.put4 (c4 := #[.int .i64 0, .string (⟨#[]⟩ : ByteArray), .int .i64 0, .int .i64 0, .int .i64 0]) HS ?_ 2 _; (with_reducible repeat (first | refine NX.drewN ?_ _ | refine NX.drew ?_)); refine NX.put4 (c4 := #[.int .i64 0, .string (⟨#[]⟩ : ByteArray), .int .i64 0, .int .i64 0, .int .i64 0]) HS ?_ 1 _; (with_reducible repeat (first | refine NX.drewN ?_ _ | refine NX.drew ?_)); refine NX.put4 (c4 := #[.int .i64 0, .string (⟨#[]⟩ : ByteArray), .int .i64 0, .int .i64 0, .int .i64 0]) HS ?_ 0 _; (with_reducible repeat (first | refine NX.drewN ?_ _ | refine NX.drew ?_)); exact HX0) (fun w8 HX => ?_)
  clear HX0 HI0 HK HB BK120 BK125
  have n2b := HS.d; have n4b := HS.d.symm; have n2g := HS.g2; have n4g := HS.g4; have n2h := HS.g2.symm; have n4h := HS.g4.symm
  have hz1_0 := cellS51_0 HX.st.1
  have hz1_1 := cellS51_1 HX.st.1
  have hz1_2 := cellS51_2 HX.st.1
  have hz1_3 := cellS51_3 HX.st.1
  have hy1_0 := blk_frozen HX.st.1 0
  have hy1_1 := blk_frozen HX.st.1 1
  have hy1_2 := blk_frozen HX.st.1 2
  have hy1_3 := blk_frozen HX.st.1 3
  have hb21_0 := (blk_cell HX.k2 0).trans (show _ = some (.int .i64 0) from rfl)
  have hb21_1 := (blk_cell HX.k2 1).trans (show _ = some (.string (⟨#[]⟩ : ByteArray)) from rfl)
  have hb21_2 := (blk_cell HX.k2 2).trans (show _ = some (.int .i64 0) from rfl)
  have hb21_3 := (blk_cell HX.k2 3).trans (show _ = some (.int .i64 0) from rfl)
  have hb21_4 := (blk_cell HX.k2 4).trans (show _ = some (.int .i64 0) from rfl)
  have fb21_0 := blk_frozen HX.k2 0
  have fb21_1 := blk_frozen HX.k2 1
  have fb21_2 := blk_frozen HX.k2 2
  have fb21_3 := blk_frozen HX.k2 3
  have fb21_4 := blk_frozen HX.k2 4
  have hb41_0 := (blk_cell HX.k4 0).trans (show _ = some (.int .i64 0) from rfl)
  have hb41_1 := (blk_cell HX.k4 1).trans (show _ = some (.string (⟨#[]⟩ : ByteArray)) from rfl)
  have hb41_2 := (blk_cell HX.k4 2).trans (show _ = some (.int .i64 0) from rfl)
  have hb41_3 := (blk_cell HX.k4 3).trans (show _ = some (.int .i64 l1) from rfl)
  have hb41_4 := (blk_cell HX.k4 4).trans (show _ = some (.int .i64 c1) from rfl)
  have fb41_0 := blk_frozen HX.k4 0
  have fb41_1 := blk_frozen HX.k4 1
  have fb41_2 := blk_frozen HX.k4 2
  have fb41_3 := blk_frozen HX.k4 3
  have fb41_4 := blk_frozen HX.k4 4
  have H := HC.out; clear HC
  by_cases c3 : i1 = (s1.size : Int)
  · rw [if_pos c3] at H
    have c3b : (i1 == (s1.size : Int)) = true := beq_iff_eq.mpr c3
    simp only [Option.some.injEq, Prod.mk.injEq] at H
    obtain ⟨rfl, rfl, rfl, rfl, rfl, rfl, rfl, rfl, rfl, rfl⟩ := H
    go_quiet (fail)
    go_wp2
    refine bodyPost_ret (results_ct rfl _ _ b2 34 #[.int .i64 0, .string (⟨#[]⟩ : ByteArray), .int .i64 0, .int .i64 l1, .int .i64 c1] (0, 0) _ rfl ?k2 Tryd.underlying34 rfl (by kernel_rfl)) rfl ?post
    case k2 => exact NX.k2 (w0 := w0) (w := w) (g := g) (s := s1) (i := i1) (l := l1) (c := c1) (b4 := b4) (c4 := #[.int .i64 0, .string (⟨#[]⟩ : ByteArray), .int .i64 0, .int .i64 l1, .int .i64 c1]) (by (with_reducible repeat (first | refine NX.drewN ?_ _ | refine NX.drew ?_)); refine NX.put2 (c2 := #[.int .i64 0, .string (⟨#[]⟩ : ByteArray), .int .i64 0, .int .i64 l1, .int .i64 0]) HS ?_ 4 _; (with_reducible repeat (first | refine NX.drewN ?_ _ | refine NX.drew ?_)); refine NX.put2 (c2 := #[.int .i64 0, .string (⟨#[]⟩ : ByteArray), .int .i64 0, .int .i64 0, .int .i64 0]) HS ?_ 3 _; (with_reducible repeat (first | refine NX.drewN ?_ _ | refine NX.drew ?_)); refine NX.put2 (c2 := #[.int .i64 0, .string (⟨#[]⟩ : ByteArray), .int .i64 0, .int .i64 0, .int .i64 0]) HS ?_ 2 _; (with_reducible repeat (first | refine NX.drewN ?_ _ | refine NX.drew ?_)); refine NX.put2 (c2 := #[.int .i64 0, .string (⟨#[]⟩ : ByteArray), .int .i64 0, .int .i64 0, .int .i64 0]) HS ?_ 1 _; (with_reducible repeat (first | refine NX.drewN ?_ _ | refine NX.drew ?_)); refine NX.put2 (c2 := #[.int .i64 0, .string (⟨#[]⟩ : ByteArray), .int .i64 0, .int .i64 0, .int .i64 0]) HS ?_ 0 _; (with_reducible repeat (first | refine NX.drewN ?_ _ | refine NX.drew ?_)); exact HX)
    case post => exact NX.post (b2 := b2) (c2 := #[.int .i64 0, .string (⟨#[]⟩ : ByteArray), .int .i64 0, .int .i64 l1, .int .i64 c1]) (b4 := b4) (c4 := #[.int .i64 0, .string (⟨#[]⟩ : ByteArray), .int .i64 0, .int .i64 l1, .int .i64 c1]) (by (with_reducible repeat (first | refine NX.drewN ?_ _ | refine NX.drew ?_)); refine NX.put2 (c2 := #[.int .i64 0, .string (⟨#[]⟩ : ByteArray), .int .i64 0, .int .i64 l1, .int .i64 0]) HS ?_ 4 _; (with_reducible repeat (first | refine NX.drewN ?_ _ | refine NX.drew ?_)); refine NX.put2 (c2 := #[.int .i64 0, .string (⟨#[]⟩ : ByteArray), .int .i64 0, .int .i64 0, .int .i64 0]) HS ?_ 3 _; (with_reducible repeat (first | refine NX.drewN ?_ _ | refine NX.drew ?_)); refine NX.put2 (c2 := #[.int .i64 0, .string (⟨#[]⟩ : ByteArray), .int .i64 0, .int .i64 0, .int .i64 0]) HS ?_ 2 _; (with_reducible repeat (first | refine NX.drewN ?_ _ | refine NX.drew ?_)); refine NX.put2 (c2 := #[.int .i64 0, .string (⟨#[]⟩ : ByteArray), .int .i64 0, .int .i64 0, .int .i64 0]) HS ?_ 1 _; (with_reducible repeat (first | refine NX.drewN ?_ _ | refine NX.drew ?_)); refine NX.put2 (c2 := #[.int .i64 0, .string (⟨#[]⟩ : ByteArray), .int .i64 0, .int .i64 0, .int .i64 0]) HS ?_ 0 _; (with_reducible repeat (first | refine NX.drewN ?_ _ | refine NX.drew ?_)); exact HX) rfl
  · rw [if_neg c3] at H
    have c3b : (i1 == (s1.size : Int)) = false := beq_eq_false_iff_ne.mpr c3
    by_cases c4 : 0 ≤ i1
    case neg => rw [if_neg c4] at H; exact absurd H (by simp)
    rw [if_pos c4] at H
    have c4f0 : decide (0 ≤ i1) = true := decide_eq_true c4
    by_cases c5 : i1 < (s1.size : Int)
    case neg => rw [if_neg c5] at H; exact absurd H (by simp)
    rw [if_pos c5] at H
    have c5f0 : decide (i1 < (s1.size : Int)) = true := decide_eq_true c5
    have p4 := eq_true c4; have q4 := eq_true c5; have hx4 := bt_at s1 i1
    clear c3 c4 c5
    have HC := Aside0.mk H; clear H
    go_quiet (fail)
    go_wp2
    go_quiet (fail)
    go_upto_region 14 with (fail)
    refine wp_gen (fun W_ => NX w0 w W_ g s1 i1 l1 c1 b2 #[.int .i64 0, .string (⟨#[]⟩ : ByteArray), .int .i64 0, .int .i64 0, .int .i64 0] b4 #[.int .i64 0, .string (⟨#[]⟩ : ByteArray), .int .i64 0, .int .i64 l1, .int .i64 c1]) (by (with_reducible repeat (first | refine NX.drewN ?_ _ | refine NX.drew ?_)); exact HX) (fun w9 HX => ?_)
    (try clear hz1_0 hy1_0 hz1_1 hy1_1 hz1_2 hy1_2 hz1_3 hy1_3)
    (try clear hb21_0 fb21_0 hb41_0 fb41_0 hb21_1 fb21_1 hb41_1 fb41_1 hb21_2 fb21_2 hb41_2 fb41_2 hb21_3 fb21_3 hb41_3 fb41_3 hb21_4 fb21_4 hb41_4 fb41_4)
    have H := HC.out; clear HC
    replace H := Option.bind_eq_some_iff.mp H
    obtain ⟨lt, A30, H⟩ := H
    replace H : (if lt = true then _ else _) = _ := H
    have A3 := Aside0.mk A30; clear A30
    by_cases clt : lt = true
    · subst clt; rw [if_pos rfl] at H
      replace H := Option.bind_eq_some_iff.mp H
      obtain ⟨⟨n, t2, t3, t4, t5⟩, A50, H⟩ := H
      have A5 := Aside0.mk A50; clear A50
      replace H : (if i1 ≤ wrap64 (i1 + n) then (if wrap64 (i1 + n) ≤ (s1.size : Int) then tokAt k s1 i1 l1 c1 (if isWord (s1.extract i1.toNat (wrap64 (i1 + n)).toNat) = true then 3 else 1) (s1.extract i1.toNat (wrap64 (i1 + n)).toNat) 0 else none) else none) = _ := H
      by_cases c6 : i1 ≤ wrap64 (i1 + n)
      case neg => rw [if_neg c6] at H; exact absurd H (by simp)
      rw [if_pos c6] at H
      by_cases c7 : wrap64 (i1 + n) ≤ (s1.size : Int)
      case neg => rw [if_neg c7] at H; exact absurd H (by simp)
      rw [if_pos c7] at H
      have c6f0 := eq_true c6; have c6f1 : decide (i1 ≤ wrap64 (i1 + n)) = true := decide_eq_true c6; have c7f0 := eq_true c7; have c7f1 : decide (wrap64 (i1 + n) ≤ (s1.size : Int)) = true := decide_eq_true c7; clear c6 c7
      obtain ⟨txt, htxt⟩ : ∃ t_ : ByteArray, s1.extract i1.toNat (wrap64 (i1 + n)).toNat = t_ := ⟨_, rfl⟩
      rw [htxt] at H
      have HC := Aside0.mk H; clear H
      go_wp2_with (first | ((with_reducible refine gate_callee (f := 20) rfl ?_); refine goesL_ (some 71) rfl rfl Tryd.func20 (by kernel_rfl) rfl #[.int .u8 (bt s1 i1)] rfl (by (try simp only [List.map_toArray, List.map_cons, List.map_nil]); first | done | rfl | (simp only [List.length_drop, List.length_take]; rfl)) ?_; (with_reducible refine (lex_letter.calls (bt s1 i1) true _ A3.out).mono ?_); rintro e w' ⟨rfl, ⟨nd, rfl⟩⟩; refine ⟨_, rfl, ?_⟩))
      refine wp_gen (fun W_ => NX w0 w W_ g s1 i1 l1 c1 b2 #[.int .i64 0, .string (⟨#[]⟩ : ByteArray), .int .i64 0, .int .i64 0, .int .i64 0] b4 #[.int .i64 0, .string (⟨#[]⟩ : ByteArray), .int .i64 0, .int .i64 l1, .int .i64 c1]) (by (with_reducible repeat (first | refine NX.drewN ?_ _ | refine NX.drew ?_)); exact HX) (fun w10 HX => ?_)
      refine start_ (n := 20) (S := fun w' => w'.cell? ⟨g, 0, none⟩ = some (.string s1) ∧ w'.cell? ⟨g, 1, none⟩ = some (.int .i64 i1)) (ds := []) #[false, false, false, false, false, false, false, false, false, false, false, false, false, false, false, false, false, false, false, false] (by kernel_rfl) rfl rfl ⟨cellS51_0 HX.st.1, cellS51_1 HX.st.1⟩ (fun hHeld => ?_); refine with_tabW next_tab15 next_bits15 (fun HT_ HW_ => ?_)
      replace HX := HX.drew
      generalize w10.drew = w11 at HX hHeld ⊢
      refine pure_ (i := 0) (N := some 72) (v := ?_) (a' := ?_) #[true, false, false, false, false, false, false, false, false, false, false, false, false, false, false, false, false, false, false, false] rfl rfl (any_of HT_.out (by kernel_rfl)) (fun _ _ _ h => h) (Or.inl ⟨by rfl, ?_⟩) ?_ ?_
      rotate_left
      · intro w'
        go_simp
        with_reducible rfl
      rotate_left
      · simp only [Act.put, List.setIfInBounds_toArray, List.set_cons_zero, List.set_cons_succ, i64_w, i32_w]
        rfl
      refine pure_ (i := 1) (N := some 73) (v := ?_) (a' := ?_) #[true, true, false, false, false, false, false, false, false, false, false, false, false, false, false, false, false, false, false, false] rfl rfl (any_of HT_.out (by kernel_rfl)) (fun _ _ _ h => h) (Or.inl ⟨by rfl, ?_⟩) ?_ ?_
      rotate_left
      · intro w'
        go_simp
        with_reducible rfl
      rotate_left
      · simp only [Act.put, List.setIfInBounds_toArray, List.set_cons_zero, List.set_cons_succ, i64_w, i32_w]
        rfl
      refine pure_ (i := 2) (N := some 74) (v := ?_) (a' := ?_) #[true, true, true, false, false, false, false, false, false, false, false, false, false, false, false, false, false, false, false, false] rfl rfl (any_of HT_.out (by kernel_rfl)) (fun _ _ _ h => h) (Or.inl ⟨by rfl, ?_⟩) ?_ ?_
      rotate_left
      · intro w'
        go_simp
        with_reducible rfl
      rotate_left
      · simp only [Act.put, List.setIfInBounds_toArray, List.set_cons_zero, List.set_cons_succ, i64_w, i32_w]
        rfl
      refine pure_ (i := 4) (N := some 76) (v := ?_) (a' := ?_) #[true, true, true, false, true, false, false, false, false, false, false, false, false, false, false, false, false, false, false, false] rfl rfl (any_of HT_.out (by kernel_rfl)) (fun _ _ _ h => h) (Or.inl ⟨by rfl, ?_⟩) ?_ ?_
      rotate_left
      · intro w'
        go_simp
        with_reducible rfl
      rotate_left
      · simp only [Act.put, List.setIfInBounds_toArray, List.set_cons_zero, List.set_cons_succ, i64_w, i32_w]
        rfl
      refine pure_ (i := 5) (N := some 77) (v := ?_) (a' := ?_) #[true, true, true, false, true, true, false, false, false, false, false, false, false, false, false, false, false, false, false, false] rfl rfl (any_of HT_.out (by kernel_rfl)) (fun _ _ _ h => h) (Or.inl ⟨by rfl, ?_⟩) ?_ ?_
      rotate_left
      · intro w'
        go_simp
        with_reducible rfl
      rotate_left
      · simp only [Act.put, List.setIfInBounds_toArray, List.set_cons_zero, List.set_cons_succ, i64_w, i32_w]
        rfl
      refine pure_ (i := 6) (N := some 78) (v := ?_) (a' := ?_) #[true, true, true, false, true, true, true, false, false, false, false, false, false, false, false, false, false, false, false, false] rfl rfl (any_of HT_.out (by kernel_rfl)) (fun _ _ _ h => h) (Or.inl ⟨by rfl, ?_⟩) ?_ ?_
      rotate_left
      · intro w'
        go_simp
        with_reducible rfl
      rotate_left
      · simp only [Act.put, List.setIfInBounds_toArray, List.set_cons_zero, List.set_cons_succ, i64_w, i32_w]
        rfl
      refine pure_ (i := 8) (N := some 80) (v := ?_) (a' := ?_) #[true, true, true, false, true, true, true, false, true, false, false, false, false, false, false, false, false, false, false, false] rfl rfl (any_of HT_.out (by kernel_rfl)) (fun _ _ _ h => h) (Or.inl ⟨by rfl, ?_⟩) ?_ ?_
      rotate_left
      · intro w'
        go_simp
        with_reducible rfl
      rotate_left
      · simp only [Act.put, List.setIfInBounds_toArray, List.set_cons_zero, List.set_cons_succ, i64_w, i32_w]
        rfl
      refine pure_ (i := 9) (N := some 81) (v := ?_) (a' := ?_) #[true, true, true, false, true, true, true, false, true, true, false, false, false, false, false, false, false, false, false, false] rfl rfl (any_of HT_.out (by kernel_rfl)) (fun _ _ _ h => h) (Or.inl ⟨by rfl, ?_⟩) ?_ ?_
      rotate_left
      · intro w'
        go_simp
        with_reducible rfl
      rotate_left
      · simp only [Act.put, List.setIfInBounds_toArray, List.set_cons_zero, List.set_cons_succ, i64_w, i32_w]
        rfl
      refine pure_ (i := 10) (N := some 82) (v := ?_) (a' := ?_) #[true, true, true, false, true, true, true, false, true, true, true, false, false, false, false, false, false, false, false, false] rfl rfl (any_of HT_.out (by kernel_rfl)) (fun _ _ _ h => h) (Or.inl ⟨by rfl, ?_⟩) ?_ ?_
      rotate_left
      · intro w'
        go_simp
        with_reducible rfl
      rotate_left
      · simp only [Act.put, List.setIfInBounds_toArray, List.set_cons_zero, List.set_cons_succ, i64_w, i32_w]
        rfl
      refine pure_ (i := 12) (N := some 84) (v := ?_) (a' := ?_) #[true, true, true, false, true, true, true, false, true, true, true, false, true, false, false, false, false, false, false, false] rfl rfl (any_of HT_.out (by kernel_rfl)) (fun _ _ _ h => h) (Or.inl ⟨by rfl, ?_⟩) ?_ ?_
      rotate_left
      · intro w'
        go_simp
        with_reducible rfl
      rotate_left
      · simp only [Act.put, List.setIfInBounds_toArray, List.set_cons_zero, List.set_cons_succ, i64_w, i32_w]
        rfl
      refine pure_ (i := 16) (N := some 88) (v := ?_) (a' := ?_) #[true, true, true, false, true, true, true, false, true, true, true, false, true, false, false, false, true, false, false, false] rfl rfl (any_of HT_.out (by kernel_rfl)) (fun _ _ _ h => h) (Or.inl ⟨by rfl, ?_⟩) ?_ ?_
      rotate_left
      · intro w'
        go_simp
        with_reducible rfl
      rotate_left
      · simp only [Act.put, List.setIfInBounds_toArray, List.set_cons_zero, List.set_cons_succ, i64_w, i32_w]
        rfl
      refine take_ (i := 3) (N := some 75) (v := ?_) (a' := ?_) #[true, true, true, true, true, true, true, false, true, true, true, false, true, false, false, false, true, false, false, false] rfl rfl (take_ofW HT_.out HW_.out (by kernel_rfl)) (fun _ _ _ h => h) (Or.inl ⟨by rfl, ?_⟩) hHeld ?_ ?_
      rotate_left
      · rintro w' ⟨s0, s1⟩
        go_simp
        with_reducible rfl
      rotate_left
      · simp only [Act.put, List.setIfInBounds_toArray, List.set_cons_zero, List.set_cons_succ, i64_w, i32_w]
        rfl
      refine take_ (i := 7) (N := some 79) (v := ?_) (a' := ?_) #[true, true, true, true, true, true, true, true, true, true, true, false, true, false, false, false, true, false, false, false] rfl rfl (take_ofW HT_.out HW_.out (by kernel_rfl)) (fun _ _ _ h => h) (Or.inl ⟨by rfl, ?_⟩) hHeld ?_ ?_
      rotate_left
      · rintro w' ⟨s0, s1⟩
        go_simp
        with_reducible rfl
      rotate_left
      · simp only [Act.put, List.setIfInBounds_toArray, List.set_cons_zero, List.set_cons_succ, i64_w, i32_w]
        rfl
      refine take_ (i := 11) (N := some 83) (v := ?_) (a' := ?_) #[true, true, true, true, true, true, true, true, true, true, true, true, true, false, false, false, true, false, false, false] rfl rfl (take_ofW HT_.out HW_.out (by kernel_rfl)) (fun _ _ _ h => h) (Or.inl ⟨by rfl, ?_⟩) hHeld ?_ ?_
      rotate_left
      · rintro w' ⟨s0, s1⟩
        go_simp
        with_reducible rfl
      rotate_left
      · simp only [Act.put, List.setIfInBounds_toArray, List.set_cons_zero, List.set_cons_succ, i64_w, i32_w]
        rfl
      refine one_ (i := 13) (N := some 85) #[true, true, true, true, true, true, true, true, true, true, true, true, true, true, false, false, true, false, false, false] rfl rfl (one_of HT_.out (by kernel_rfl)) (by decide) (fun K hK => ?_)
      refine goes_ Tryd.func21 (by kernel_rfl) rfl #[.pointer (some ⟨g, 0, none⟩), .bool true] (by rfl) rfl rfl (by (try simp only [List.map_toArray, List.map_cons, List.map_nil]); first | done | rfl | (simp only [List.length_drop, List.length_take]; rfl)) ?_
      with_reducible refine (lex_lexer_run.calls k g s1 i1 l1 c1 true n t2 t3 t4 t5 w0 _ HX.st HX.bl A5.out).mono ?_
      rintro e w12 ⟨rfl, -, -, -, hd⟩
      refine ⟨_, rfl, ?_⟩
      replace HX := HX.drawn hd; clear hd
      refine hK.out _ _ ⟨cellS51_0 HX.st.1, cellS51_1 HX.st.1⟩ (fun hHeld => ?_)
      clear hK K
      refine norm_ (a' := ?_) ?_ ?_
      rotate_left
      · show Act.put _ (some 85) _ = _
        simp only [Act.put, List.setIfInBounds_toArray, List.set_cons_zero, List.set_cons_succ, i64_w, i32_w]
        rfl
      refine pure_ (i := 14) (N := some 86) (v := ?_) (a' := ?_) #[true, true, true, true, true, true, true, true, true, true, true, true, true, true, true, false, true, false, false, false] rfl rfl (any_of HT_.out (by kernel_rfl)) (fun _ _ _ h => h) (Or.inl ⟨by rfl, ?_⟩) ?_ ?_
      rotate_left
      · intro w'
        go_simp
        with_reducible rfl
      rotate_left
      · simp only [Act.put, List.setIfInBounds_toArray, List.set_cons_zero, List.set_cons_succ, i64_w, i32_w]
        rfl
      refine pure_ (i := 15) (N := some 87) (v := ?_) (a' := ?_) #[true, true, true, true, true, true, true, true, true, true, true, true, true, true, true, true, true, false, false, false] rfl rfl (any_of HT_.out (by kernel_rfl)) (fun _ _ _ h => h) (Or.inl ⟨by rfl, ?_⟩) ?_ ?_
      rotate_left
      · intro w'
        go_simp
        with_reducible rfl
      rotate_left
      · simp only [Act.put, List.setIfInBounds_toArray, List.set_cons_zero, List.set_cons_succ, i64_w, i32_w]
        rfl
      (try clear hz1_0 hy1_0 hz1_1 hy1_1 hz1_2 hy1_2 hz1_3 hy1_3)
      (try clear hb21_0 fb21_0 hb41_0 fb41_0 hb21_1 fb21_1 hb41_1 fb41_1 hb21_2 fb21_2 hb41_2 fb41_2 hb21_3 fb21_3 hb41_3 fb41_3 hb21_4 fb21_4 hb41_4 fb41_4)
      have hb42_0 := (blk_cell HX.k4 0).trans (show _ = some (.int .i64 0) from rfl)
      have hb42_1 := (blk_cell HX.k4 1).trans (show _ = some (.string (⟨#[]⟩ : ByteArray)) from rfl)
      have hb42_2 := (blk_cell HX.k4 2).trans (show _ = some (.int .i64 0) from rfl)
      have hb42_3 := (blk_cell HX.k4 3).trans (show _ = some (.int .i64 l1) from rfl)
      have hb42_4 := (blk_cell HX.k4 4).trans (show _ = some (.int .i64 c1) from rfl)
      have fb42_0 := blk_frozen HX.k4 0
      have fb42_1 := blk_frozen HX.k4 1
      have fb42_2 := blk_frozen HX.k4 2
      have fb42_3 := blk_frozen HX.k4 3
      have fb42_4 := blk_frozen HX.k4 4
      refine one_ (i := 17) (N := none) #[true, true, true, true, true, true, true, true, true, true, true, true, true, true, true, true, true, true, false, false] rfl rfl (one_of HT_.out (by kernel_rfl)) (by decide) (fun K hK => ?_)
      refine skip_ (w1 := ?_) (by rfl) rfl ?_ ?_
      rotate_left
      · go_simp
        rfl
      refine hK.out _ _ ⟨((cell_far (p := ⟨b4, _, none⟩) n4g _).trans (hHeld.1)), ((cell_far (p := ⟨b4, _, none⟩) n4g _).trans (hHeld.2))⟩ (fun hHeld => ?_)
      clear hK K
      refine pure_ (i := 18) (N := some 89) (v := ?_) (a' := ?_) #[true, true, true, true, true, true, true, true, true, true, true, true, true, true, true, true, true, true, true, false] rfl rfl (any_of HT_.out (by kernel_rfl)) (fun _ _ _ h => h) (Or.inl ⟨by rfl, ?_⟩) ?_ ?_
      rotate_left
      · intro w'
        go_simp
        with_reducible rfl
      rotate_left
      · simp only [Act.put, List.setIfInBounds_toArray, List.set_cons_zero, List.set_cons_succ, i64_w, i32_w]
        rfl
      refine one_ (i := 19) (N := none) #[true, true, true, true, true, true, true, true, true, true, true, true, true, true, true, true, true, true, true, true] rfl rfl (one_of HT_.out (by kernel_rfl)) (by decide) (fun K hK => ?_)
      refine skip_ (w1 := ?_) (by rfl) rfl ?_ ?_
      rotate_left
      · go_simp
        rfl
      refine hK.out _ _ ⟨((cell_far (p := ⟨b4, _, none⟩) n4g _).trans (hHeld.1)), ((cell_far (p := ⟨b4, _, none⟩) n4g _).trans (hHeld.2))⟩ (fun hHeld => ?_)
      clear hK K
      refine done_ (done_of HT_.out (by kernel_rfl)) ?_
      replace HX : NX w0 w ((w12.setCell ⟨b4, 0, none⟩ (.int .i64 1)).setCell ⟨b4, 1, none⟩ (.string txt)) g s1 i1 l1 c1 b2 #[.int .i64 0, .string (⟨#[]⟩ : ByteArray), .int .i64 0, .int .i64 0, .int .i64 0] b4 #[.int .i64 1, .string txt, .int .i64 0, .int .i64 l1, .int .i64 c1] := by (with_reducible repeat (first | refine NX.drewN ?_ _ | refine NX.drew ?_)); refine NX.put4 (c4 := #[.int .i64 1, .string (⟨#[]⟩ : ByteArray), .int .i64 0, .int .i64 l1, .int .i64 c1]) HS ?_ 1 _; (with_reducible repeat (first | refine NX.drewN ?_ _ | refine NX.drew ?_)); refine NX.put4 (c4 := #[.int .i64 0, .string (⟨#[]⟩ : ByteArray), .int .i64 0, .int .i64 l1, .int .i64 c1]) HS ?_ 0 _; (with_reducible repeat (first | refine NX.drewN ?_ _ | refine NX.drew ?_)); exact HX
      generalize ((w12.setCell ⟨b4, 0, none⟩ (.int .i64 1)).setCell ⟨b4, 1, none⟩ (.string txt)) = w13 at HX ⊢
      (try clear hz2_0 hy2_0 hz2_1 hy2_1 hz2_2 hy2_2 hz2_3 hy2_3)
      (try clear hb22_0 fb22_0 hb42_0 fb42_0 hb22_1 fb22_1 hb42_1 fb42_1 hb22_2 fb22_2 hb42_2 fb42_2 hb22_3 fb22_3 hb42_3 fb42_3 hb22_4 fb22_4 hb42_4 fb42_4)
      obtain ⟨wa, wcap, hwa0, hgs⟩ := GL.out.words
      have hg0 : w13.cell? ⟨2, 0, none⟩ = some (.slice (some wa) 11 wcap) := cell_below hwa0 HX.bl
      clear hwa0
      have HX1 := Aside0.mk HX; clear HX
      go_wp2
      go_loopg [92] 12 (fun kq v92 w' => ∃ (x kd : Int), v92 = .int .i64 x ∧ Aside0 (0 ≤ x ∧ x ≤ 11 ∧ (kq : Int) + x = 12) ∧ Aside0 (kd = if ((wordList.take x.toNat).any fun y => y == txt.toList) = true then 3 else 1) ∧ Aside0 (NX w0 w w' g s1 i1 l1 c1 b2 #[.int .i64 0, .string (⟨#[]⟩ : ByteArray), .int .i64 0, .int .i64 0, .int .i64 0] b4 #[.int .i64 kd, .string txt, .int .i64 0, .int .i64 l1, .int .i64 c1]))
      case atStart => exact ⟨0, 1, rfl, ⟨by decide, by decide, by decide⟩, ⟨rfl⟩, HX1⟩
      case round =>
        clear HX1 hg0
        obtain ⟨x, kd, rfl, HM, HD, HX1⟩ := hrel
        have HX := HX1.out; clear HX1
        cases gk with
        | zero => have := HM.out; omega
        | succ k1 =>
          by_cases cx : x < 11
          · have p9 : 0 ≤ x := HM.out.1
            obtain ⟨m, hm⟩ : ∃ m, wordList[x.toNat]? = some m := ⟨_, List.getElem?_eq_getElem (show x.toNat < 11 by omega)⟩
            obtain ⟨mb, hmb⟩ : ∃ b_ : ByteArray, (⟨m.toArray⟩ : ByteArray) = b_ := ⟨_, rfl⟩
            have hcx := (show ∀ W_, Below w0.heap.size w0 W_ → W_.cell? (wa.add x.toNat) = some (.string mb) from fun W_ hb => by rw [← hmb]; exact cell_below (hgs x.toNat m hm) hb) _ HX.bl
            have hlist : mb.toList = m := by rw [← hmb, ByteArray.toList_eq]
            have hw : wrap64 (x + 1) = x + 1 := by have := HM.out; unfold wrap64; omega
            have cx0 : decide (x < 11) = true := decide_eq_true cx
            have px := eq_true p9; have qx := eq_true cx; clear p9
            have hb43_0 := (blk_cell HX.k4 0).trans (show _ = some (.int .i64 kd) from rfl)
            have hb43_1 := (blk_cell HX.k4 1).trans (show _ = some (.string txt) from rfl)
            have hb43_2 := (blk_cell HX.k4 2).trans (show _ = some (.int .i64 0) from rfl)
            have hb43_3 := (blk_cell HX.k4 3).trans (show _ = some (.int .i64 l1) from rfl)
            have hb43_4 := (blk_cell HX.k4 4).trans (show _ = some (.int .i64 c1) from rfl)
            have fb43_0 := blk_frozen HX.k4 0
            have fb43_1 := blk_frozen HX.k4 1
            have fb43_2 := blk_frozen HX.k4 2
            have fb43_3 := blk_frozen HX.k4 3
            have fb43_4 := blk_frozen HX.k4 4
            by_cases ce : mb.toList = txt.toList
            · have ce0 : (m == txt.toList) = true := by rw [← hlist]; exact beq_iff_eq.mpr ce
              go_wp2
              go_roundg k1
              case measure => omega
              case rel =>
                refine ⟨x + 1, 3, by rw [hw], ⟨by have hm_ := HM.out; omega⟩, ⟨?_⟩, ⟨by (with_reducible repeat (first | refine NX.drewN ?_ _ | refine NX.drew ?_)); refine NX.put4 (c4 := #[.int .i64 kd, .string txt, .int .i64 0, .int .i64 l1, .int .i64 c1]) HS ?_ 0 _; (with_reducible repeat (first | refine NX.drewN ?_ _ | refine NX.drew ?_)); exact HX⟩⟩
                rw [show (x + 1).toNat = x.toNat + 1 from by have hm_ := HM.out; omega, List.take_add_one, hm]
                simp [← ce, hlist]
            · have ce0 : (m == txt.toList) = false := by rw [← hlist]; exact beq_eq_false_iff_ne.mpr ce
              go_wp2
              go_roundg k1
              case measure => omega
              case rel =>
                refine ⟨x + 1, kd, by rw [hw], ⟨by have := HM.out; omega⟩, ⟨?_⟩, ⟨by (with_reducible repeat (first | refine NX.drewN ?_ _ | refine NX.drew ?_)); exact HX⟩⟩
                have hne := ce0
                rw [show (x + 1).toNat = x.toNat + 1 from by have hm_ := HM.out; omega, List.take_add_one, hm, HD.out]
                simp [hne]
          · have cx0 : decide (x < 11) = false := decide_eq_false cx
            obtain rfl : x = 11 := by have := HM.out; omega
            have hkd : kd = if isWord txt = true then 3 else 1 := HD.out
            have H := HC.out; clear HC HD; rw [← hkd] at H; clear hkd
            have hb44_0 := (blk_cell HX.k4 0).trans (show _ = some (.int .i64 kd) from rfl)
            have hb44_1 := (blk_cell HX.k4 1).trans (show _ = some (.string txt) from rfl)
            have hb44_2 := (blk_cell HX.k4 2).trans (show _ = some (.int .i64 0) from rfl)
            have hb44_3 := (blk_cell HX.k4 3).trans (show _ = some (.int .i64 l1) from rfl)
            have hb44_4 := (blk_cell HX.k4 4).trans (show _ = some (.int .i64 c1) from rfl)
            have fb44_0 := blk_frozen HX.k4 0
            have fb44_1 := blk_frozen HX.k4 1
            have fb44_2 := blk_frozen HX.k4 2
            have fb44_3 := blk_frozen HX.k4 3
            have fb44_4 := blk_frozen HX.k4 4
            replace H := Option.bind_eq_some_iff.mp H
            obtain ⟨⟨u1, u2, u3, u4⟩, A80, H⟩ := H
            have A8 := Aside0.mk A80; clear A80
            simp only [Option.some.injEq, Prod.mk.injEq] at H
            obtain ⟨rfl, rfl, rfl, rfl, rfl, rfl, rfl, rfl, rfl, rfl⟩ := H
            skip
            go_wp2_with (first | ((with_reducible refine gate_callee (f := 25) rfl ?_); refine goesL_ (some 138) rfl rfl Tryd.func25 (by kernel_rfl) rfl #[.pointer (some ⟨g, 0, none⟩), .int .i64 (txt.size : Int)] rfl (by (try simp only [List.map_toArray, List.map_cons, List.map_nil]); first | done | rfl | (simp only [List.length_drop, List.length_take]; rfl)) ?_; (with_reducible refine (lex_lexer_skip.calls k g s1 i1 l1 c1 (txt.size : Int) u1 u2 u3 u4 w0 _ ?side1 ?side2 A8.out).mono ?_); (case side1 => exact HX.st); (case side2 => exact HX.bl); rintro e w20 ⟨rfl, hi, hb, hk⟩; refine ⟨_, rfl, ?_⟩; replace HX := NX.go HS HX hi hb hk; clear hi hb hk; have hb25_0 := (blk_cell HX.k2 0).trans (show _ = some (.int .i64 0) from rfl); have hb25_1 := (blk_cell HX.k2 1).trans (show _ = some (.string (⟨#[]⟩ : ByteArray)) from rfl); have hb25_2 := (blk_cell HX.k2 2).trans (show _ = some (.int .i64 0) from rfl); have hb25_3 := (blk_cell HX.k2 3).trans (show _ = some (.int .i64 0) from rfl); have hb25_4 := (blk_cell HX.k2 4).trans (show _ = some (.int .i64 0) from rfl); have fb25_0 := blk_frozen HX.k2 0; have fb25_1 := blk_frozen HX.k2 1; have fb25_2 := blk_frozen HX.k2 2; have fb25_3 := blk_frozen HX.k2 3; have fb25_4 := blk_frozen HX.k2 4; have hb45_0 := (blk_cell HX.k4 0).trans (show _ = some (.int .i64 kd) from rfl); have hb45_1 := (blk_cell HX.k4 1).trans (show _ = some (.string txt) from rfl); have hb45_2 := (blk_cell HX.k4 2).trans (show _ = some (.int .i64 0) from rfl); have hb45_3 := (blk_cell HX.k4 3).trans (show _ = some (.int .i64 l1) from rfl); have hb45_4 := (blk_cell HX.k4 4).trans (show _ = some (.int .i64 c1) from rfl); have fb45_0 := blk_frozen HX.k4 0; have fb45_1 := blk_frozen HX.k4 1; have fb45_2 := blk_frozen HX.k4 2; have fb45_3 := blk_frozen HX.k4 3; have fb45_4 := blk_frozen HX.k4 4))
            refine bodyPost_ret (results_ct rfl _ _ b2 34 #[.int .i64 kd, .string txt, .int .i64 0, .int .i64 l1, .int .i64 c1] (0, 0) _ rfl ?k2 Tryd.underlying34 rfl (by kernel_rfl)) rfl ?post
            case k2 => exact NX.k2 (w0 := w0) (w := w) (g := g) (s := u1) (i := u2) (l := u3) (c := u4) (b4 := b4) (c4 := #[.int .i64 kd, .string txt, .int .i64 0, .int .i64 l1, .int .i64 c1]) (by (with_reducible repeat (first | refine NX.drewN ?_ _ | refine NX.drew ?_)); refine NX.put2 (c2 := #[.int .i64 kd, .string txt, .int .i64 0, .int .i64 l1, .int .i64 0]) HS ?_ 4 _; (with_reducible repeat (first | refine NX.drewN ?_ _ | refine NX.drew ?_)); refine NX.put2 (c2 := #[.int .i64 kd, .string txt, .int .i64 0, .int .i64 0, .int .i64 0]) HS ?_ 3 _; (with_reducible repeat (first | refine NX.drewN ?_ _ | refine NX.drew ?_)); refine NX.put2 (c2 := #[.int .i64 kd, .string txt, .int .i64 0, .int .i64 0, .int .i64 0]) HS ?_ 2 _; (with_reducible repeat (first | refine NX.drewN ?_ _ | refine NX.drew ?_)); refine NX.put2 (c2 := #[.int .i64 kd, .string (⟨#[]⟩ : ByteArray), .int .i64 0, .int .i64 0, .int .i64 0]) HS ?_ 1 _; (with_reducible repeat (first | refine NX.drewN ?_ _ | refine NX.drew ?_)); refine NX.put2 (c2 := #[.int .i64 0, .string (⟨#[]⟩ : ByteArray), .int .i64 0, .int .i64 0, .int .i64 0]) HS ?_ 0 _; (with_reducible repeat (first | refine NX.drewN ?_ _ | refine NX.drew ?_)); exact HX)
            case post => exact NX.post (b2 := b2) (c2 := #[.int .i64 kd, .string txt, .int .i64 0, .int .i64 l1, .int .i64 c1]) (b4 := b4) (c4 := #[.int .i64 kd, .string txt, .int .i64 0, .int .i64 l1, .int .i64 c1]) (by (with_reducible repeat (first | refine NX.drewN ?_ _ | refine NX.drew ?_)); refine NX.put2 (c2 := #[.int .i64 kd, .string txt, .int .i64 0, .int .i64 l1, .int .i64 0]) HS ?_ 4 _; (with_reducible repeat (first | refine NX.drewN ?_ _ | refine NX.drew ?_)); refine NX.put2 (c2 := #[.int .i64 kd, .string txt, .int .i64 0, .int .i64 0, .int .i64 0]) HS ?_ 3 _; (with_reducible repeat (first | refine NX.drewN ?_ _ | refine NX.drew ?_)); refine NX.put2 (c2 := #[.int .i64 kd, .string txt, .int .i64 0, .int .i64 0, .int .i64 0]) HS ?_ 2 _; (with_reducible repeat (first | refine NX.drewN ?_ _ | refine NX.drew ?_)); refine NX.put2 (c2 := #[.int .i64 kd, .string (⟨#[]⟩ : ByteArray), .int .i64 0, .int .i64 0, .int .i64 0]) HS ?_ 1 _; (with_reducible repeat (first | refine NX.drewN ?_ _ | refine NX.drew ?_)); refine NX.put2 (c2 := #[.int .i64 0, .string (⟨#[]⟩ : ByteArray), .int .i64 0, .int .i64 0, .int .i64 0]) HS ?_ 0 _; (with_reducible repeat (first | refine NX.drewN ?_ _ | refine NX.drew ?_)); exact HX) rfl
    · replace clt := Bool.eq_false_iff.mpr clt
      subst clt; rw [if_neg (show ¬ (false = true) by decide)] at H
      replace H := Option.bind_eq_some_iff.mp H
      obtain ⟨dg, A40, H⟩ := H
      replace H : (if dg = true then _ else _) = _ := H
      have A4 := Aside0.mk A40; clear A40
      by_cases cdg : dg = true
      · subst cdg; rw [if_pos rfl] at H
        replace H := Option.bind_eq_some_iff.mp H
        obtain ⟨⟨n, t2, t3, t4, t5⟩, A50, H⟩ := H
        have A5 := Aside0.mk A50; clear A50
        replace H : (if i1 ≤ wrap64 (i1 + n) then (if wrap64 (i1 + n) ≤ (s1.size : Int) then (lex_value.f k (s1.extract i1.toNat (wrap64 (i1 + n)).toNat)).bind fun v => (if v.2 = true then tokAt k s1 i1 l1 c1 2 (s1.extract i1.toNat (wrap64 (i1 + n)).toNat) v.1 else some (0, (⟨#[]⟩ : ByteArray), 0, 0, 0, 11, s1, i1, l1, c1)) else none) else none) = _ := H
        by_cases c6 : i1 ≤ wrap64 (i1 + n)
        case neg => rw [if_neg c6] at H; exact absurd H (by simp)
        rw [if_pos c6] at H
        by_cases c7 : wrap64 (i1 + n) ≤ (s1.size : Int)
        case neg => rw [if_neg c7] at H; exact absurd H (by simp)
        rw [if_pos c7] at H
        have c6f0 := eq_true c6; have c6f1 : decide (i1 ≤ wrap64 (i1 + n)) = true := decide_eq_true c6; have c7f0 := eq_true c7; have c7f1 : decide (wrap64 (i1 + n) ≤ (s1.size : Int)) = true := decide_eq_true c7; clear c6 c7
        obtain ⟨txt, htxt⟩ : ∃ t_ : ByteArray, s1.extract i1.toNat (wrap64 (i1 + n)).toNat = t_ := ⟨_, rfl⟩
        rw [htxt] at H
        replace H := Option.bind_eq_some_iff.mp H
        obtain ⟨⟨v1, v2⟩, A60, H⟩ := H
        have A6 := Aside0.mk A60; clear A60
        replace H : (if v2 = true then tokAt k s1 i1 l1 c1 2 txt v1 else some (0, (⟨#[]⟩ : ByteArray), 0, 0, 0, 11, s1, i1, l1, c1)) = _ := H
        have HC := Aside0.mk H; clear H
        go_wp2_with (first | ((with_reducible refine gate_callee (f := 20) rfl ?_); refine goesL_ (some 71) rfl rfl Tryd.func20 (by kernel_rfl) rfl #[.int .u8 (bt s1 i1)] rfl (by (try simp only [List.map_toArray, List.map_cons, List.map_nil]); first | done | rfl | (simp only [List.length_drop, List.length_take]; rfl)) ?_; (with_reducible refine (lex_letter.calls (bt s1 i1) false _ A3.out).mono ?_); rintro e w' ⟨rfl, ⟨nd, rfl⟩⟩; refine ⟨_, rfl, ?_⟩) | ((with_reducible refine gate_callee (f := 22) rfl ?_); refine goesL_ (some 104) rfl rfl Tryd.func22 (by kernel_rfl) rfl #[.int .u8 (bt s1 i1)] rfl (by (try simp only [List.map_toArray, List.map_cons, List.map_nil]); first | done | rfl | (simp only [List.length_drop, List.length_take]; rfl)) ?_; (with_reducible refine (lex_digit.calls (bt s1 i1) true _ A4.out).mono ?_); rintro e w' ⟨rfl, ⟨nd, rfl⟩⟩; refine ⟨_, rfl, ?_⟩))
        refine wp_gen (fun W_ => NX w0 w W_ g s1 i1 l1 c1 b2 #[.int .i64 0, .string (⟨#[]⟩ : ByteArray), .int .i64 0, .int .i64 0, .int .i64 0] b4 #[.int .i64 0, .string (⟨#[]⟩ : ByteArray), .int .i64 0, .int .i64 l1, .int .i64 c1]) (by (with_reducible repeat (first | refine NX.drewN ?_ _ | refine NX.drew ?_)); exact HX) (fun w10 HX => ?_)
        refine start_ (n := 20) (S := fun w' => w'.cell? ⟨g, 0, none⟩ = some (.string s1) ∧ w'.cell? ⟨g, 1, none⟩ = some (.int .i64 i1)) (ds := []) #[false, false, false, false, false, false, false, false, false, false, false, false, false, false, false, false, false, false, false, false] (by kernel_rfl) rfl rfl ⟨cellS51_0 HX.st.1, cellS51_1 HX.st.1⟩ (fun hHeld => ?_); refine with_tabW next_tab23 next_bits23 (fun HT_ HW_ => ?_)
        replace HX := HX.drew
        generalize w10.drew = w11 at HX hHeld ⊢
        refine pure_ (i := 0) (N := some 105) (v := ?_) (a' := ?_) #[true, false, false, false, false, false, false, false, false, false, false, false, false, false, false, false, false, false, false, false] rfl rfl (any_of HT_.out (by kernel_rfl)) (fun _ _ _ h => h) (Or.inl ⟨by rfl, ?_⟩) ?_ ?_
        rotate_left
        · intro w'
          go_simp
          with_reducible rfl
        rotate_left
        · simp only [Act.put, List.setIfInBounds_toArray, List.set_cons_zero, List.set_cons_succ, i64_w, i32_w]
          rfl
        refine pure_ (i := 1) (N := some 106) (v := ?_) (a' := ?_) #[true, true, false, false, false, false, false, false, false, false, false, false, false, false, false, false, false, false, false, false] rfl rfl (any_of HT_.out (by kernel_rfl)) (fun _ _ _ h => h) (Or.inl ⟨by rfl, ?_⟩) ?_ ?_
        rotate_left
        · intro w'
          go_simp
          with_reducible rfl
        rotate_left
        · simp only [Act.put, List.setIfInBounds_toArray, List.set_cons_zero, List.set_cons_succ, i64_w, i32_w]
          rfl
        refine pure_ (i := 2) (N := some 107) (v := ?_) (a' := ?_) #[true, true, true, false, false, false, false, false, false, false, false, false, false, false, false, false, false, false, false, false] rfl rfl (any_of HT_.out (by kernel_rfl)) (fun _ _ _ h => h) (Or.inl ⟨by rfl, ?_⟩) ?_ ?_
        rotate_left
        · intro w'
          go_simp
          with_reducible rfl
        rotate_left
        · simp only [Act.put, List.setIfInBounds_toArray, List.set_cons_zero, List.set_cons_succ, i64_w, i32_w]
          rfl
        refine pure_ (i := 4) (N := some 109) (v := ?_) (a' := ?_) #[true, true, true, false, true, false, false, false, false, false, false, false, false, false, false, false, false, false, false, false] rfl rfl (any_of HT_.out (by kernel_rfl)) (fun _ _ _ h => h) (Or.inl ⟨by rfl, ?_⟩) ?_ ?_
        rotate_left
        · intro w'
          go_simp
          with_reducible rfl
        rotate_left
        · simp only [Act.put, List.setIfInBounds_toArray, List.set_cons_zero, List.set_cons_succ, i64_w, i32_w]
          rfl
        refine pure_ (i := 5) (N := some 110) (v := ?_) (a' := ?_) #[true, true, true, false, true, true, false, false, false, false, false, false, false, false, false, false, false, false, false, false] rfl rfl (any_of HT_.out (by kernel_rfl)) (fun _ _ _ h => h) (Or.inl ⟨by rfl, ?_⟩) ?_ ?_
        rotate_left
        · intro w'
          go_simp
          with_reducible rfl
        rotate_left
        · simp only [Act.put, List.setIfInBounds_toArray, List.set_cons_zero, List.set_cons_succ, i64_w, i32_w]
          rfl
        refine pure_ (i := 6) (N := some 111) (v := ?_) (a' := ?_) #[true, true, true, false, true, true, true, false, false, false, false, false, false, false, false, false, false, false, false, false] rfl rfl (any_of HT_.out (by kernel_rfl)) (fun _ _ _ h => h) (Or.inl ⟨by rfl, ?_⟩) ?_ ?_
        rotate_left
        · intro w'
          go_simp
          with_reducible rfl
        rotate_left
        · simp only [Act.put, List.setIfInBounds_toArray, List.set_cons_zero, List.set_cons_succ, i64_w, i32_w]
          rfl
        refine pure_ (i := 8) (N := some 113) (v := ?_) (a' := ?_) #[true, true, true, false, true, true, true, false, true, false, false, false, false, false, false, false, false, false, false, false] rfl rfl (any_of HT_.out (by kernel_rfl)) (fun _ _ _ h => h) (Or.inl ⟨by rfl, ?_⟩) ?_ ?_
        rotate_left
        · intro w'
          go_simp
          with_reducible rfl
        rotate_left
        · simp only [Act.put, List.setIfInBounds_toArray, List.set_cons_zero, List.set_cons_succ, i64_w, i32_w]
          rfl
        refine pure_ (i := 9) (N := some 114) (v := ?_) (a' := ?_) #[true, true, true, false, true, true, true, false, true, true, false, false, false, false, false, false, false, false, false, false] rfl rfl (any_of HT_.out (by kernel_rfl)) (fun _ _ _ h => h) (Or.inl ⟨by rfl, ?_⟩) ?_ ?_
        rotate_left
        · intro w'
          go_simp
          with_reducible rfl
        rotate_left
        · simp only [Act.put, List.setIfInBounds_toArray, List.set_cons_zero, List.set_cons_succ, i64_w, i32_w]
          rfl
        refine pure_ (i := 10) (N := some 115) (v := ?_) (a' := ?_) #[true, true, true, false, true, true, true, false, true, true, true, false, false, false, false, false, false, false, false, false] rfl rfl (any_of HT_.out (by kernel_rfl)) (fun _ _ _ h => h) (Or.inl ⟨by rfl, ?_⟩) ?_ ?_
        rotate_left
        · intro w'
          go_simp
          with_reducible rfl
        rotate_left
        · simp only [Act.put, List.setIfInBounds_toArray, List.set_cons_zero, List.set_cons_succ, i64_w, i32_w]
          rfl
        refine pure_ (i := 12) (N := some 117) (v := ?_) (a' := ?_) #[true, true, true, false, true, true, true, false, true, true, true, false, true, false, false, false, false, false, false, false] rfl rfl (any_of HT_.out (by kernel_rfl)) (fun _ _ _ h => h) (Or.inl ⟨by rfl, ?_⟩) ?_ ?_
        rotate_left
        · intro w'
          go_simp
          with_reducible rfl
        rotate_left
        · simp only [Act.put, List.setIfInBounds_toArray, List.set_cons_zero, List.set_cons_succ, i64_w, i32_w]
          rfl
        refine pure_ (i := 16) (N := some 121) (v := ?_) (a' := ?_) #[true, true, true, false, true, true, true, false, true, true, true, false, true, false, false, false, true, false, false, false] rfl rfl (any_of HT_.out (by kernel_rfl)) (fun _ _ _ h => h) (Or.inl ⟨by rfl, ?_⟩) ?_ ?_
        rotate_left
        · intro w'
          go_simp
          with_reducible rfl
        rotate_left
        · simp only [Act.put, List.setIfInBounds_toArray, List.set_cons_zero, List.set_cons_succ, i64_w, i32_w]
          rfl
        refine take_ (i := 3) (N := some 108) (v := ?_) (a' := ?_) #[true, true, true, true, true, true, true, false, true, true, true, false, true, false, false, false, true, false, false, false] rfl rfl (take_ofW HT_.out HW_.out (by kernel_rfl)) (fun _ _ _ h => h) (Or.inl ⟨by rfl, ?_⟩) hHeld ?_ ?_
        rotate_left
        · rintro w' ⟨s0, s1⟩
          go_simp
          with_reducible rfl
        rotate_left
        · simp only [Act.put, List.setIfInBounds_toArray, List.set_cons_zero, List.set_cons_succ, i64_w, i32_w]
          rfl
        refine take_ (i := 7) (N := some 112) (v := ?_) (a' := ?_) #[true, true, true, true, true, true, true, true, true, true, true, false, true, false, false, false, true, false, false, false] rfl rfl (take_ofW HT_.out HW_.out (by kernel_rfl)) (fun _ _ _ h => h) (Or.inl ⟨by rfl, ?_⟩) hHeld ?_ ?_
        rotate_left
        · rintro w' ⟨s0, s1⟩
          go_simp
          with_reducible rfl
        rotate_left
        · simp only [Act.put, List.setIfInBounds_toArray, List.set_cons_zero, List.set_cons_succ, i64_w, i32_w]
          rfl
        refine take_ (i := 11) (N := some 116) (v := ?_) (a' := ?_) #[true, true, true, true, true, true, true, true, true, true, true, true, true, false, false, false, true, false, false, false] rfl rfl (take_ofW HT_.out HW_.out (by kernel_rfl)) (fun _ _ _ h => h) (Or.inl ⟨by rfl, ?_⟩) hHeld ?_ ?_
        rotate_left
        · rintro w' ⟨s0, s1⟩
          go_simp
          with_reducible rfl
        rotate_left
        · simp only [Act.put, List.setIfInBounds_toArray, List.set_cons_zero, List.set_cons_succ, i64_w, i32_w]
          rfl
        refine one_ (i := 13) (N := some 118) #[true, true, true, true, true, true, true, true, true, true, true, true, true, true, false, false, true, false, false, false] rfl rfl (one_of HT_.out (by kernel_rfl)) (by decide) (fun K hK => ?_)
        refine goes_ Tryd.func21 (by kernel_rfl) rfl #[.pointer (some ⟨g, 0, none⟩), .bool false] (by rfl) rfl rfl (by (try simp only [List.map_toArray, List.map_cons, List.map_nil]); first | done | rfl | (simp only [List.length_drop, List.length_take]; rfl)) ?_
        with_reducible refine (lex_lexer_run.calls k g s1 i1 l1 c1 false n t2 t3 t4 t5 w0 _ HX.st HX.bl A5.out).mono ?_
        rintro e w12 ⟨rfl, -, -, -, hd⟩
        refine ⟨_, rfl, ?_⟩
        replace HX := HX.drawn hd; clear hd
        refine hK.out _ _ ⟨cellS51_0 HX.st.1, cellS51_1 HX.st.1⟩ (fun hHeld => ?_)
        clear hK K
        refine norm_ (a' := ?_) ?_ ?_
        rotate_left
        · show Act.put _ (some 118) _ = _
          simp only [Act.put, List.setIfInBounds_toArray, List.set_cons_zero, List.set_cons_succ, i64_w, i32_w]
          rfl
        refine pure_ (i := 14) (N := some 119) (v := ?_) (a' := ?_) #[true, true, true, true, true, true, true, true, true, true, true, true, true, true, true, false, true, false, false, false] rfl rfl (any_of HT_.out (by kernel_rfl)) (fun _ _ _ h => h) (Or.inl ⟨by rfl, ?_⟩) ?_ ?_
        rotate_left
        · intro w'
          go_simp
          with_reducible rfl
        rotate_left
        · simp only [Act.put, List.setIfInBounds_toArray, List.set_cons_zero, List.set_cons_succ, i64_w, i32_w]
          rfl
        refine pure_ (i := 15) (N := some 120) (v := ?_) (a' := ?_) #[true, true, true, true, true, true, true, true, true, true, true, true, true, true, true, true, true, false, false, false] rfl rfl (any_of HT_.out (by kernel_rfl)) (fun _ _ _ h => h) (Or.inl ⟨by rfl, ?_⟩) ?_ ?_
        rotate_left
        · intro w'
          go_simp
          with_reducible rfl
        rotate_left
        · simp only [Act.put, List.setIfInBounds_toArray, List.set_cons_zero, List.set_cons_succ, i64_w, i32_w]
          rfl
        (try clear hz5_0 hy5_0 hz5_1 hy5_1 hz5_2 hy5_2 hz5_3 hy5_3)
        (try clear hb25_0 fb25_0 hb45_0 fb45_0 hb25_1 fb25_1 hb45_1 fb45_1 hb25_2 fb25_2 hb45_2 fb45_2 hb25_3 fb25_3 hb45_3 fb45_3 hb25_4 fb25_4 hb45_4 fb45_4)
        have hb46_0 := (blk_cell HX.k4 0).trans (show _ = some (.int .i64 0) from rfl)
        have hb46_1 := (blk_cell HX.k4 1).trans (show _ = some (.string (⟨#[]⟩ : ByteArray)) from rfl)
        have hb46_2 := (blk_cell HX.k4 2).trans (show _ = some (.int .i64 0) from rfl)
        have hb46_3 := (blk_cell HX.k4 3).trans (show _ = some (.int .i64 l1) from rfl)
        have hb46_4 := (blk_cell HX.k4 4).trans (show _ = some (.int .i64 c1) from rfl)
        have fb46_0 := blk_frozen HX.k4 0
        have fb46_1 := blk_frozen HX.k4 1
        have fb46_2 := blk_frozen HX.k4 2
        have fb46_3 := blk_frozen HX.k4 3
        have fb46_4 := blk_frozen HX.k4 4
        refine one_ (i := 17) (N := none) #[true, true, true, true, true, true, true, true, true, true, true, true, true, true, true, true, true, true, false, false] rfl rfl (one_of HT_.out (by kernel_rfl)) (by decide) (fun K hK => ?_)
        refine skip_ (w1 := ?_) (by rfl) rfl ?_ ?_
        rotate_left
        · go_simp
          rfl
        refine hK.out _ _ ⟨((cell_far (p := ⟨b4, _, none⟩) n4g _).trans (hHeld.1)), ((cell_far (p := ⟨b4, _, none⟩) n4g _).trans (hHeld.2))⟩ (fun hHeld => ?_)
        clear hK K
        refine pure_ (i := 18) (N := some 122) (v := ?_) (a' := ?_) #[true, true, true, true, true, true, true, true, true, true, true, true, true, true, true, true, true, true, true, false] rfl rfl (any_of HT_.out (by kernel_rfl)) (fun _ _ _ h => h) (Or.inl ⟨by rfl, ?_⟩) ?_ ?_
        rotate_left
        · intro w'
          go_simp
          with_reducible rfl
        rotate_left
        · simp only [Act.put, List.setIfInBounds_toArray, List.set_cons_zero, List.set_cons_succ, i64_w, i32_w]
          rfl
        refine one_ (i := 19) (N := none) #[true, true, true, true, true, true, true, true, true, true, true, true, true, true, true, true, true, true, true, true] rfl rfl (one_of HT_.out (by kernel_rfl)) (by decide) (fun K hK => ?_)
        refine skip_ (w1 := ?_) (by rfl) rfl ?_ ?_
        rotate_left
        · go_simp
          rfl
        refine hK.out _ _ ⟨((cell_far (p := ⟨b4, _, none⟩) n4g _).trans (hHeld.1)), ((cell_far (p := ⟨b4, _, none⟩) n4g _).trans (hHeld.2))⟩ (fun hHeld => ?_)
        clear hK K
        refine done_ (done_of HT_.out (by kernel_rfl)) ?_
        replace HX : NX w0 w ((w12.setCell ⟨b4, 0, none⟩ (.int .i64 2)).setCell ⟨b4, 1, none⟩ (.string txt)) g s1 i1 l1 c1 b2 #[.int .i64 0, .string (⟨#[]⟩ : ByteArray), .int .i64 0, .int .i64 0, .int .i64 0] b4 #[.int .i64 2, .string txt, .int .i64 0, .int .i64 l1, .int .i64 c1] := by (with_reducible repeat (first | refine NX.drewN ?_ _ | refine NX.drew ?_)); refine NX.put4 (c4 := #[.int .i64 2, .string (⟨#[]⟩ : ByteArray), .int .i64 0, .int .i64 l1, .int .i64 c1]) HS ?_ 1 _; (with_reducible repeat (first | refine NX.drewN ?_ _ | refine NX.drew ?_)); refine NX.put4 (c4 := #[.int .i64 0, .string (⟨#[]⟩ : ByteArray), .int .i64 0, .int .i64 l1, .int .i64 c1]) HS ?_ 0 _; (with_reducible repeat (first | refine NX.drewN ?_ _ | refine NX.drew ?_)); exact HX
        generalize ((w12.setCell ⟨b4, 0, none⟩ (.int .i64 2)).setCell ⟨b4, 1, none⟩ (.string txt)) = w13 at HX ⊢
        (try clear hz6_0 hy6_0 hz6_1 hy6_1 hz6_2 hy6_2 hz6_3 hy6_3)
        (try clear hb26_0 fb26_0 hb46_0 fb46_0 hb26_1 fb26_1 hb46_1 fb46_1 hb26_2 fb26_2 hb46_2 fb46_2 hb26_3 fb26_3 hb46_3 fb46_3 hb26_4 fb26_4 hb46_4 fb46_4)
        have H := HC.out; clear HC
        have hb27_0 := (blk_cell HX.k2 0).trans (show _ = some (.int .i64 0) from rfl)
        have hb27_1 := (blk_cell HX.k2 1).trans (show _ = some (.string (⟨#[]⟩ : ByteArray)) from rfl)
        have hb27_2 := (blk_cell HX.k2 2).trans (show _ = some (.int .i64 0) from rfl)
        have hb27_3 := (blk_cell HX.k2 3).trans (show _ = some (.int .i64 0) from rfl)
        have hb27_4 := (blk_cell HX.k2 4).trans (show _ = some (.int .i64 0) from rfl)
        have fb27_0 := blk_frozen HX.k2 0
        have fb27_1 := blk_frozen HX.k2 1
        have fb27_2 := blk_frozen HX.k2 2
        have fb27_3 := blk_frozen HX.k2 3
        have fb27_4 := blk_frozen HX.k2 4
        have hb47_0 := (blk_cell HX.k4 0).trans (show _ = some (.int .i64 2) from rfl)
        have hb47_1 := (blk_cell HX.k4 1).trans (show _ = some (.string txt) from rfl)
        have hb47_2 := (blk_cell HX.k4 2).trans (show _ = some (.int .i64 0) from rfl)
        have hb47_3 := (blk_cell HX.k4 3).trans (show _ = some (.int .i64 l1) from rfl)
        have hb47_4 := (blk_cell HX.k4 4).trans (show _ = some (.int .i64 c1) from rfl)
        have fb47_0 := blk_frozen HX.k4 0
        have fb47_1 := blk_frozen HX.k4 1
        have fb47_2 := blk_frozen HX.k4 2
        have fb47_3 := blk_frozen HX.k4 3
        have fb47_4 := blk_frozen HX.k4 4
        by_cases cv : v2 = true
        · subst cv; rw [if_pos rfl] at H
          go_upto_region 28 with (first | ((with_reducible refine gate_callee (f := 23) rfl ?_); refine goesL_ (some 126) rfl rfl Tryd.func23 (by kernel_rfl) rfl #[.string txt] rfl (by (try simp only [List.map_toArray, List.map_cons, List.map_nil]); first | done | rfl | (simp only [List.length_drop, List.length_take]; rfl)) ?_; (with_reducible refine (lex_value.calls k txt v1 true _ A6.out).mono ?_); rintro e w' ⟨rfl, ⟨nd, rfl⟩⟩; refine ⟨_, rfl, ?_⟩))
          refine wp_gen (fun W_ => NX w0 w W_ g s1 i1 l1 c1 b2 #[.int .i64 0, .string (⟨#[]⟩ : ByteArray), .int .i64 0, .int .i64 0, .int .i64 0] b4 #[.int .i64 2, .string txt, .int .i64 v1, .int .i64 l1, .int .i64 c1]) (by (with_reducible repeat (first | refine NX.drewN ?_ _ | refine NX.drew ?_)); refine NX.put4 (c4 := #[.int .i64 2, .string txt, .int .i64 0, .int .i64 l1, .int .i64 c1]) HS ?_ 2 _; (with_reducible repeat (first | refine NX.drewN ?_ _ | refine NX.drew ?_)); exact HX) (fun w14 HX => ?_)
          (try clear hz7_0 hy7_0 hz7_1 hy7_1 hz7_2 hy7_2 hz7_3 hy7_3)
          (try clear hb27_0 fb27_0 hb47_0 fb47_0 hb27_1 fb27_1 hb47_1 fb47_1 hb27_2 fb27_2 hb47_2 fb47_2 hb27_3 fb27_3 hb47_3 fb47_3 hb27_4 fb27_4 hb47_4 fb47_4)
          have hb48_0 := (blk_cell HX.k4 0).trans (show _ = some (.int .i64 2) from rfl)
          have hb48_1 := (blk_cell HX.k4 1).trans (show _ = some (.string txt) from rfl)
          have hb48_2 := (blk_cell HX.k4 2).trans (show _ = some (.int .i64 v1) from rfl)
          have hb48_3 := (blk_cell HX.k4 3).trans (show _ = some (.int .i64 l1) from rfl)
          have hb48_4 := (blk_cell HX.k4 4).trans (show _ = some (.int .i64 c1) from rfl)
          have fb48_0 := blk_frozen HX.k4 0
          have fb48_1 := blk_frozen HX.k4 1
          have fb48_2 := blk_frozen HX.k4 2
          have fb48_3 := blk_frozen HX.k4 3
          have fb48_4 := blk_frozen HX.k4 4
          replace H := Option.bind_eq_some_iff.mp H
          obtain ⟨⟨u1, u2, u3, u4⟩, A80, H⟩ := H
          have A8 := Aside0.mk A80; clear A80
          simp only [Option.some.injEq, Prod.mk.injEq] at H
          obtain ⟨rfl, rfl, rfl, rfl, rfl, rfl, rfl, rfl, rfl, rfl⟩ := H
          skip
          go_wp2_with (first | ((with_reducible refine gate_callee (f := 25) rfl ?_); refine goesL_ (some 138) rfl rfl Tryd.func25 (by kernel_rfl) rfl #[.pointer (some ⟨g, 0, none⟩), .int .i64 (txt.size : Int)] rfl (by (try simp only [List.map_toArray, List.map_cons, List.map_nil]); first | done | rfl | (simp only [List.length_drop, List.length_take]; rfl)) ?_; (with_reducible refine (lex_lexer_skip.calls k g s1 i1 l1 c1 (txt.size : Int) u1 u2 u3 u4 w0 _ ?side1 ?side2 A8.out).mono ?_); (case side1 => exact HX.st); (case side2 => exact HX.bl); rintro e w20 ⟨rfl, hi, hb, hk⟩; refine ⟨_, rfl, ?_⟩; replace HX := NX.go HS HX hi hb hk; clear hi hb hk; have hb29_0 := (blk_cell HX.k2 0).trans (show _ = some (.int .i64 0) from rfl); have hb29_1 := (blk_cell HX.k2 1).trans (show _ = some (.string (⟨#[]⟩ : ByteArray)) from rfl); have hb29_2 := (blk_cell HX.k2 2).trans (show _ = some (.int .i64 0) from rfl); have hb29_3 := (blk_cell HX.k2 3).trans (show _ = some (.int .i64 0) from rfl); have hb29_4 := (blk_cell HX.k2 4).trans (show _ = some (.int .i64 0) from rfl); have fb29_0 := blk_frozen HX.k2 0; have fb29_1 := blk_frozen HX.k2 1; have fb29_2 := blk_frozen HX.k2 2; have fb29_3 := blk_frozen HX.k2 3; have fb29_4 := blk_frozen HX.k2 4; have hb49_0 := (blk_cell HX.k4 0).trans (show _ = some (.int .i64 2) from rfl); have hb49_1 := (blk_cell HX.k4 1).trans (show _ = some (.string txt) from rfl); have hb49_2 := (blk_cell HX.k4 2).trans (show _ = some (.int .i64 v1) from rfl); have hb49_3 := (blk_cell HX.k4 3).trans (show _ = some (.int .i64 l1) from rfl); have hb49_4 := (blk_cell HX.k4 4).trans (show _ = some (.int .i64 c1) from rfl); have fb49_0 := blk_frozen HX.k4 0; have fb49_1 := blk_frozen HX.k4 1; have fb49_2 := blk_frozen HX.k4 2; have fb49_3 := blk_frozen HX.k4 3; have fb49_4 := blk_frozen HX.k4 4))
          refine bodyPost_ret (results_ct rfl _ _ b2 34 #[.int .i64 2, .string txt, .int .i64 v1, .int .i64 l1, .int .i64 c1] (0, 0) _ rfl ?k2 Tryd.underlying34 rfl (by kernel_rfl)) rfl ?post
          case k2 => exact NX.k2 (w0 := w0) (w := w) (g := g) (s := u1) (i := u2) (l := u3) (c := u4) (b4 := b4) (c4 := #[.int .i64 2, .string txt, .int .i64 v1, .int .i64 l1, .int .i64 c1]) (by (with_reducible repeat (first | refine NX.drewN ?_ _ | refine NX.drew ?_)); refine NX.put2 (c2 := #[.int .i64 2, .string txt, .int .i64 v1, .int .i64 l1, .int .i64 0]) HS ?_ 4 _; (with_reducible repeat (first | refine NX.drewN ?_ _ | refine NX.drew ?_)); refine NX.put2 (c2 := #[.int .i64 2, .string txt, .int .i64 v1, .int .i64 0, .int .i64 0]) HS ?_ 3 _; (with_reducible repeat (first | refine NX.drewN ?_ _ | refine NX.drew ?_)); refine NX.put2 (c2 := #[.int .i64 2, .string txt, .int .i64 0, .int .i64 0, .int .i64 0]) HS ?_ 2 _; (with_reducible repeat (first | refine NX.drewN ?_ _ | refine NX.drew ?_)); refine NX.put2 (c2 := #[.int .i64 2, .string (⟨#[]⟩ : ByteArray), .int .i64 0, .int .i64 0, .int .i64 0]) HS ?_ 1 _; (with_reducible repeat (first | refine NX.drewN ?_ _ | refine NX.drew ?_)); refine NX.put2 (c2 := #[.int .i64 0, .string (⟨#[]⟩ : ByteArray), .int .i64 0, .int .i64 0, .int .i64 0]) HS ?_ 0 _; (with_reducible repeat (first | refine NX.drewN ?_ _ | refine NX.drew ?_)); exact HX)
          case post => exact NX.post (b2 := b2) (c2 := #[.int .i64 2, .string txt, .int .i64 v1, .int .i64 l1, .int .i64 c1]) (b4 := b4) (c4 := #[.int .i64 2, .string txt, .int .i64 v1, .int .i64 l1, .int .i64 c1]) (by (with_reducible repeat (first | refine NX.drewN ?_ _ | refine NX.drew ?_)); refine NX.put2 (c2 := #[.int .i64 2, .string txt, .int .i64 v1, .int .i64 l1, .int .i64 0]) HS ?_ 4 _; (with_reducible repeat (first | refine NX.drewN ?_ _ | refine NX.drew ?_)); refine NX.put2 (c2 := #[.int .i64 2, .string txt, .int .i64 v1, .int .i64 0, .int .i64 0]) HS ?_ 3 _; (with_reducible repeat (first | refine NX.drewN ?_ _ | refine NX.drew ?_)); refine NX.put2 (c2 := #[.int .i64 2, .string txt, .int .i64 0, .int .i64 0, .int .i64 0]) HS ?_ 2 _; (with_reducible repeat (first | refine NX.drewN ?_ _ | refine NX.drew ?_)); refine NX.put2 (c2 := #[.int .i64 2, .string (⟨#[]⟩ : ByteArray), .int .i64 0, .int .i64 0, .int .i64 0]) HS ?_ 1 _; (with_reducible repeat (first | refine NX.drewN ?_ _ | refine NX.drew ?_)); refine NX.put2 (c2 := #[.int .i64 0, .string (⟨#[]⟩ : ByteArray), .int .i64 0, .int .i64 0, .int .i64 0]) HS ?_ 0 _; (with_reducible repeat (first | refine NX.drewN ?_ _ | refine NX.drew ?_)); exact HX) rfl
        · replace cv := Bool.eq_false_iff.mpr cv
          subst cv; rw [if_neg (show ¬ (false = true) by decide)] at H
          simp only [Option.some.injEq, Prod.mk.injEq] at H
          obtain ⟨rfl, rfl, rfl, rfl, rfl, rfl, rfl, rfl, rfl, rfl⟩ := H
          go_wp2_with (first | ((with_reducible refine gate_callee (f := 23) rfl ?_); refine goesL_ (some 126) rfl rfl Tryd.func23 (by kernel_rfl) rfl #[.string txt] rfl (by (try simp only [List.map_toArray, List.map_cons, List.map_nil]); first | done | rfl | (simp only [List.length_drop, List.length_take]; rfl)) ?_; (with_reducible refine (lex_value.calls k txt v1 false _ A6.out).mono ?_); rintro e w' ⟨rfl, ⟨nd, rfl⟩⟩; refine ⟨_, rfl, ?_⟩))
          refine bodyPost_ret (results_ct rfl _ _ b2 34 #[.int .i64 0, .string (⟨#[]⟩ : ByteArray), .int .i64 0, .int .i64 0, .int .i64 0] (0, 0) _ rfl ?k2 Tryd.underlying34 rfl (by kernel_rfl)) rfl ?post
          case k2 => exact NX.k2 (w0 := w0) (w := w) (g := g) (s := s1) (i := i1) (l := l1) (c := c1) (b4 := b4) (c4 := #[.int .i64 2, .string txt, .int .i64 0, .int .i64 l1, .int .i64 c1]) (by (with_reducible repeat (first | refine NX.drewN ?_ _ | refine NX.drew ?_)); refine NX.put2 (c2 := #[.int .i64 0, .string (⟨#[]⟩ : ByteArray), .int .i64 0, .int .i64 0, .int .i64 0]) HS ?_ 4 _; (with_reducible repeat (first | refine NX.drewN ?_ _ | refine NX.drew ?_)); refine NX.put2 (c2 := #[.int .i64 0, .string (⟨#[]⟩ : ByteArray), .int .i64 0, .int .i64 0, .int .i64 0]) HS ?_ 3 _; (with_reducible repeat (first | refine NX.drewN ?_ _ | refine NX.drew ?_)); refine NX.put2 (c2 := #[.int .i64 0, .string (⟨#[]⟩ : ByteArray), .int .i64 0, .int .i64 0, .int .i64 0]) HS ?_ 2 _; (with_reducible repeat (first | refine NX.drewN ?_ _ | refine NX.drew ?_)); refine NX.put2 (c2 := #[.int .i64 0, .string (⟨#[]⟩ : ByteArray), .int .i64 0, .int .i64 0, .int .i64 0]) HS ?_ 1 _; (with_reducible repeat (first | refine NX.drewN ?_ _ | refine NX.drew ?_)); refine NX.put2 (c2 := #[.int .i64 0, .string (⟨#[]⟩ : ByteArray), .int .i64 0, .int .i64 0, .int .i64 0]) HS ?_ 0 _; (with_reducible repeat (first | refine NX.drewN ?_ _ | refine NX.drew ?_)); exact HX)
          case post => exact NX.post (b2 := b2) (c2 := #[.int .i64 0, .string (⟨#[]⟩ : ByteArray), .int .i64 0, .int .i64 0, .int .i64 0]) (b4 := b4) (c4 := #[.int .i64 2, .string txt, .int .i64 0, .int .i64 l1, .int .i64 c1]) (by (with_reducible repeat (first | refine NX.drewN ?_ _ | refine NX.drew ?_)); refine NX.put2 (c2 := #[.int .i64 0, .string (⟨#[]⟩ : ByteArray), .int .i64 0, .int .i64 0, .int .i64 0]) HS ?_ 4 _; (with_reducible repeat (first | refine NX.drewN ?_ _ | refine NX.drew ?_)); refine NX.put2 (c2 := #[.int .i64 0, .string (⟨#[]⟩ : ByteArray), .int .i64 0, .int .i64 0, .int .i64 0]) HS ?_ 3 _; (with_reducible repeat (first | refine NX.drewN ?_ _ | refine NX.drew ?_)); refine NX.put2 (c2 := #[.int .i64 0, .string (⟨#[]⟩ : ByteArray), .int .i64 0, .int .i64 0, .int .i64 0]) HS ?_ 2 _; (with_reducible repeat (first | refine NX.drewN ?_ _ | refine NX.drew ?_)); refine NX.put2 (c2 := #[.int .i64 0, .string (⟨#[]⟩ : ByteArray), .int .i64 0, .int .i64 0, .int .i64 0]) HS ?_ 1 _; (with_reducible repeat (first | refine NX.drewN ?_ _ | refine NX.drew ?_)); refine NX.put2 (c2 := #[.int .i64 0, .string (⟨#[]⟩ : ByteArray), .int .i64 0, .int .i64 0, .int .i64 0]) HS ?_ 0 _; (with_reducible repeat (first | refine NX.drewN ?_ _ | refine NX.drew ?_)); exact HX) rfl
      · replace cdg := Bool.eq_false_iff.mpr cdg
        subst cdg; rw [if_neg (show ¬ (false = true) by decide)] at H
        have HC := Aside0.mk H; clear H
        obtain ⟨wa, wcap, hwa0, hgs⟩ := GL.out.marks
        have hg0 : w9.cell? ⟨3, 0, none⟩ = some (.slice (some wa) 28 wcap) := cell_below hwa0 HX.bl
        clear hwa0
        have c5g : i1 ≤ (s1.size : Int) := Int.le_of_lt (of_eq_true q4)
        have c5g0 := eq_true c5g; have c5g1 : decide (i1 ≤ (s1.size : Int)) = true := decide_eq_true c5g; clear c5g
        obtain ⟨Y, hY⟩ : ∃ y_, (s1.extract i1.toNat s1.size).toList = y_ := ⟨_, rfl⟩
        have HX1 := Aside0.mk HX; clear HX
        go_wp2_with (first | ((with_reducible refine gate_callee (f := 20) rfl ?_); refine goesL_ (some 71) rfl rfl Tryd.func20 (by kernel_rfl) rfl #[.int .u8 (bt s1 i1)] rfl (by (try simp only [List.map_toArray, List.map_cons, List.map_nil]); first | done | rfl | (simp only [List.length_drop, List.length_take]; rfl)) ?_; (with_reducible refine (lex_letter.calls (bt s1 i1) false _ A3.out).mono ?_); rintro e w' ⟨rfl, ⟨nd, rfl⟩⟩; refine ⟨_, rfl, ?_⟩) | ((with_reducible refine gate_callee (f := 22) rfl ?_); refine goesL_ (some 104) rfl rfl Tryd.func22 (by kernel_rfl) rfl #[.int .u8 (bt s1 i1)] rfl (by (try simp only [List.map_toArray, List.map_cons, List.map_nil]); first | done | rfl | (simp only [List.length_drop, List.length_take]; rfl)) ?_; (with_reducible refine (lex_digit.calls (bt s1 i1) false _ A4.out).mono ?_); rintro e w' ⟨rfl, ⟨nd, rfl⟩⟩; refine ⟨_, rfl, ?_⟩))
        go_loopg [41] 29 (fun kq v41 w' => ∃ (x kd : Int) (txt : ByteArray), v41 = .int .i64 x ∧ Aside0 (0 ≤ x ∧ x ≤ 28 ∧ (kq : Int) + x = 29) ∧ Aside0 (txt = ⟨(firstOf (markList.take x.toNat) Y).toArray⟩) ∧ Aside0 (kd = if firstOf (markList.take x.toNat) Y = [] then 0 else 4) ∧ Aside0 (NX w0 w w' g s1 i1 l1 c1 b2 #[.int .i64 0, .string (⟨#[]⟩ : ByteArray), .int .i64 0, .int .i64 0, .int .i64 0] b4 #[.int .i64 kd, .string txt, .int .i64 0, .int .i64 l1, .int .i64 c1]))
        case atStart => exact ⟨0, 0, ⟨#[]⟩, rfl, ⟨by decide, by decide, by decide⟩, ⟨rfl⟩, ⟨rfl⟩, ⟨by (with_reducible repeat (first | refine NX.drewN ?_ _ | refine NX.drew ?_)); exact HX1.out⟩⟩
        case round =>
          clear HX1 hg0
          obtain ⟨x, kd, txt, rfl, HM, HT, HD, HX1⟩ := hrel
          have HX := HX1.out; clear HX1
          cases gk with
          | zero => have := HM.out; omega
          | succ k1 =>
            by_cases cx : x < 28
            · have p9 : 0 ≤ x := HM.out.1
              obtain ⟨m, hm⟩ : ∃ m, markList[x.toNat]? = some m := ⟨_, List.getElem?_eq_getElem (show x.toNat < 28 by omega)⟩
              have hstep := firstOf_step (markList.take x.toNat) (fun z hz => (show ∀ z ∈ markList, z ≠ [] by decide) z (List.mem_of_mem_take hz)) m Y
              rw [show markList.take x.toNat ++ [m] = markList.take (x + 1).toNat by rw [show (x + 1).toNat = x.toNat + 1 from by have hm_ := HM.out; omega, List.take_add_one, hm]; rfl] at hstep
              have HS1 := Aside0.mk hstep; clear hstep
              have AH := Aside0.mk (has_prefix (s1.extract i1.toNat s1.size) m)
              rw [hY] at AH
              obtain ⟨hp, hhp⟩ : ∃ p_, m.isPrefixOf Y = p_ := ⟨_, rfl⟩
              rw [hhp] at AH
              obtain ⟨mb, hmb⟩ : ∃ b_ : ByteArray, (⟨m.toArray⟩ : ByteArray) = b_ := ⟨_, rfl⟩
              rw [hmb] at AH
              have hcx := (show ∀ W_, Below w0.heap.size w0 W_ → W_.cell? (wa.add x.toNat) = some (.string mb) from fun W_ hb => by rw [← hmb]; exact cell_below (hgs x.toNat m hm) hb) _ HX.bl
              have hw : wrap64 (x + 1) = x + 1 := by have := HM.out; unfold wrap64; omega
              have cx0 : decide (x < 28) = true := decide_eq_true cx
              have px := eq_true p9; have qx := eq_true cx; clear p9
              have HMB := Aside0.mk hmb; clear hmb
              have HHP := Aside0.mk hhp; clear hhp
              have hz10_0 := cellS51_0 HX.st.1
              have hz10_1 := cellS51_1 HX.st.1
              have hz10_2 := cellS51_2 HX.st.1
              have hz10_3 := cellS51_3 HX.st.1
              have hy10_0 := blk_frozen HX.st.1 0
              have hy10_1 := blk_frozen HX.st.1 1
              have hy10_2 := blk_frozen HX.st.1 2
              have hy10_3 := blk_frozen HX.st.1 3
              have hb410_0 := (blk_cell HX.k4 0).trans (show _ = some (.int .i64 kd) from rfl)
              have hb410_1 := (blk_cell HX.k4 1).trans (show _ = some (.string txt) from rfl)
              have hb410_2 := (blk_cell HX.k4 2).trans (show _ = some (.int .i64 0) from rfl)
              have hb410_3 := (blk_cell HX.k4 3).trans (show _ = some (.int .i64 l1) from rfl)
              have hb410_4 := (blk_cell HX.k4 4).trans (show _ = some (.int .i64 c1) from rfl)
              have fb410_0 := blk_frozen HX.k4 0
              have fb410_1 := blk_frozen HX.k4 1
              have fb410_2 := blk_frozen HX.k4 2
              have fb410_3 := blk_frozen HX.k4 3
              have fb410_4 := blk_frozen HX.k4 4
              by_cases ce : firstOf (markList.take x.toNat) Y = []
              · have ce0 : (txt.toList == ([] : List UInt8)) = true := by rw [HT.out, ce, ByteArray.toList_eq]; rfl
                have HCE := Aside0.mk ce; clear ce
                cases hp
                · go_wp2
                  go_quiet (first | (go_at_call 24; (with_reducible refine (strings_HasPrefix.calls (s1.extract i1.toNat s1.size) mb false _ AH.out).mono ?_); rintro e w' ⟨rfl, ⟨nd, rfl⟩⟩; (try first | exact ⟨rfl, _, World.drewN_drewN _ _ _⟩ | exact ⟨rfl, _, Eq.trans (World.drewN_drewN _ _ _) (congrArg (World.drewN _) (Nat.add_assoc _ _ _))⟩)))
                  go_wp2
                  go_roundg k1
                  case measure => omega
                  case rel =>
                    have hs := HS1.out; rw [if_pos HCE.out, HHP.out, if_neg (by decide)] at hs
                    refine ⟨x + 1, kd, txt, by rw [hw], ⟨by have hm_ := HM.out; omega⟩, ⟨by rw [hs, HT.out, HCE.out]⟩, ⟨by rw [hs, HD.out, HCE.out]⟩, ⟨by (with_reducible repeat (first | refine NX.drewN ?_ _ | refine NX.drew ?_)); exact HX⟩⟩
                · go_wp2
                  go_quiet (first | (go_at_call 24; (with_reducible refine (strings_HasPrefix.calls (s1.extract i1.toNat s1.size) mb true _ AH.out).mono ?_); rintro e w' ⟨rfl, ⟨nd, rfl⟩⟩; (try first | exact ⟨rfl, _, World.drewN_drewN _ _ _⟩ | exact ⟨rfl, _, Eq.trans (World.drewN_drewN _ _ _) (congrArg (World.drewN _) (Nat.add_assoc _ _ _))⟩)))
                  go_wp2
                  go_roundg k1
                  case measure => omega
                  case rel =>
                    have hs := HS1.out; rw [if_pos HCE.out, HHP.out, if_pos rfl] at hs
                    have hne : m ≠ [] := (show ∀ z ∈ markList, z ≠ [] by decide) m (List.mem_of_getElem? hm)
                    refine ⟨x + 1, 4, mb, by rw [hw], ⟨by have hm_ := HM.out; omega⟩, ⟨by rw [hs, HMB.out]⟩, ⟨by rw [hs, if_neg hne]⟩, ⟨by (with_reducible repeat (first | refine NX.drewN ?_ _ | refine NX.drew ?_)); refine NX.put4 (c4 := #[.int .i64 4, .string txt, .int .i64 0, .int .i64 l1, .int .i64 c1]) HS ?_ 1 _; (with_reducible repeat (first | refine NX.drewN ?_ _ | refine NX.drew ?_)); refine NX.put4 (c4 := #[.int .i64 kd, .string txt, .int .i64 0, .int .i64 l1, .int .i64 c1]) HS ?_ 0 _; (with_reducible repeat (first | refine NX.drewN ?_ _ | refine NX.drew ?_)); exact HX⟩⟩
              · have ce0 : (txt.toList == ([] : List UInt8)) = false := by rw [HT.out, ByteArray.toList_eq]; exact beq_eq_false_iff_ne.mpr ce
                have HCE := Aside0.mk ce; clear ce
                go_wp2
                go_quiet (fail)
                go_wp2
                go_roundg k1
                case measure => omega
                case rel =>
                  have hs := HS1.out; rw [if_neg HCE.out] at hs
                  refine ⟨x + 1, kd, txt, by rw [hw], ⟨by have hm_ := HM.out; omega⟩, ⟨by rw [hs, HT.out]⟩, ⟨by rw [hs, HD.out]⟩, ⟨by (with_reducible repeat (first | refine NX.drewN ?_ _ | refine NX.drew ?_)); exact HX⟩⟩
            · have cx0 : decide (x < 28) = false := decide_eq_false cx
              obtain rfl : x = 28 := by have := HM.out; omega
              have hkt : txt = markOf (s1.extract i1.toNat s1.size) := by rw [HT.out]; unfold markOf; rw [hY]; rfl
              have H := HC.out; clear HC; rw [← hkt] at H
              have hb211_0 := (blk_cell HX.k2 0).trans (show _ = some (.int .i64 0) from rfl)
              have hb211_1 := (blk_cell HX.k2 1).trans (show _ = some (.string (⟨#[]⟩ : ByteArray)) from rfl)
              have hb211_2 := (blk_cell HX.k2 2).trans (show _ = some (.int .i64 0) from rfl)
              have hb211_3 := (blk_cell HX.k2 3).trans (show _ = some (.int .i64 0) from rfl)
              have hb211_4 := (blk_cell HX.k2 4).trans (show _ = some (.int .i64 0) from rfl)
              have fb211_0 := blk_frozen HX.k2 0
              have fb211_1 := blk_frozen HX.k2 1
              have fb211_2 := blk_frozen HX.k2 2
              have fb211_3 := blk_frozen HX.k2 3
              have fb211_4 := blk_frozen HX.k2 4
              have hb411_0 := (blk_cell HX.k4 0).trans (show _ = some (.int .i64 kd) from rfl)
              have hb411_1 := (blk_cell HX.k4 1).trans (show _ = some (.string txt) from rfl)
              have hb411_2 := (blk_cell HX.k4 2).trans (show _ = some (.int .i64 0) from rfl)
              have hb411_3 := (blk_cell HX.k4 3).trans (show _ = some (.int .i64 l1) from rfl)
              have hb411_4 := (blk_cell HX.k4 4).trans (show _ = some (.int .i64 c1) from rfl)
              have fb411_0 := blk_frozen HX.k4 0
              have fb411_1 := blk_frozen HX.k4 1
              have fb411_2 := blk_frozen HX.k4 2
              have fb411_3 := blk_frozen HX.k4 3
              have fb411_4 := blk_frozen HX.k4 4
              by_cases ce : txt.toList = ([] : List UInt8)
              · have ce0 : (txt.toList == ([] : List UInt8)) = true := beq_iff_eq.mpr ce
                rw [if_pos ce] at H
                simp only [Option.some.injEq, Prod.mk.injEq] at H
                obtain ⟨rfl, rfl, rfl, rfl, rfl, rfl, rfl, rfl, rfl, rfl⟩ := H
                clear hkt HT HD
                go_wp2
                refine bodyPost_ret (results_ct rfl _ _ b2 34 #[.int .i64 0, .string (⟨#[]⟩ : ByteArray), .int .i64 0, .int .i64 0, .int .i64 0] (0, 0) _ rfl ?k2 Tryd.underlying34 rfl (by kernel_rfl)) rfl ?post
                case k2 => exact NX.k2 (w0 := w0) (w := w) (g := g) (s := s1) (i := i1) (l := l1) (c := c1) (b4 := b4) (c4 := #[.int .i64 kd, .string txt, .int .i64 0, .int .i64 l1, .int .i64 c1]) (by (with_reducible repeat (first | refine NX.drewN ?_ _ | refine NX.drew ?_)); refine NX.put2 (c2 := #[.int .i64 0, .string (⟨#[]⟩ : ByteArray), .int .i64 0, .int .i64 0, .int .i64 0]) HS ?_ 4 _; (with_reducible repeat (first | refine NX.drewN ?_ _ | refine NX.drew ?_)); refine NX.put2 (c2 := #[.int .i64 0, .string (⟨#[]⟩ : ByteArray), .int .i64 0, .int .i64 0, .int .i64 0]) HS ?_ 3 _; (with_reducible repeat (first | refine NX.drewN ?_ _ | refine NX.drew ?_)); refine NX.put2 (c2 := #[.int .i64 0, .string (⟨#[]⟩ : ByteArray), .int .i64 0, .int .i64 0, .int .i64 0]) HS ?_ 2 _; (with_reducible repeat (first | refine NX.drewN ?_ _ | refine NX.drew ?_)); refine NX.put2 (c2 := #[.int .i64 0, .string (⟨#[]⟩ : ByteArray), .int .i64 0, .int .i64 0, .int .i64 0]) HS ?_ 1 _; (with_reducible repeat (first | refine NX.drewN ?_ _ | refine NX.drew ?_)); refine NX.put2 (c2 := #[.int .i64 0, .string (⟨#[]⟩ : ByteArray), .int .i64 0, .int .i64 0, .int .i64 0]) HS ?_ 0 _; (with_reducible repeat (first | refine NX.drewN ?_ _ | refine NX.drew ?_)); exact HX)
                case post => exact NX.post (b2 := b2) (c2 := #[.int .i64 0, .string (⟨#[]⟩ : ByteArray), .int .i64 0, .int .i64 0, .int .i64 0]) (b4 := b4) (c4 := #[.int .i64 kd, .string txt, .int .i64 0, .int .i64 l1, .int .i64 c1]) (by (with_reducible repeat (first | refine NX.drewN ?_ _ | refine NX.drew ?_)); refine NX.put2 (c2 := #[.int .i64 0, .string (⟨#[]⟩ : ByteArray), .int .i64 0, .int .i64 0, .int .i64 0]) HS ?_ 4 _; (with_reducible repeat (first | refine NX.drewN ?_ _ | refine NX.drew ?_)); refine NX.put2 (c2 := #[.int .i64 0, .string (⟨#[]⟩ : ByteArray), .int .i64 0, .int .i64 0, .int .i64 0]) HS ?_ 3 _; (with_reducible repeat (first | refine NX.drewN ?_ _ | refine NX.drew ?_)); refine NX.put2 (c2 := #[.int .i64 0, .string (⟨#[]⟩ : ByteArray), .int .i64 0, .int .i64 0, .int .i64 0]) HS ?_ 2 _; (with_reducible repeat (first | refine NX.drewN ?_ _ | refine NX.drew ?_)); refine NX.put2 (c2 := #[.int .i64 0, .string (⟨#[]⟩ : ByteArray), .int .i64 0, .int .i64 0, .int .i64 0]) HS ?_ 1 _; (with_reducible repeat (first | refine NX.drewN ?_ _ | refine NX.drew ?_)); refine NX.put2 (c2 := #[.int .i64 0, .string (⟨#[]⟩ : ByteArray), .int .i64 0, .int .i64 0, .int .i64 0]) HS ?_ 0 _; (with_reducible repeat (first | refine NX.drewN ?_ _ | refine NX.drew ?_)); exact HX) rfl
              · have ce0 : (txt.toList == ([] : List UInt8)) = false := beq_eq_false_iff_ne.mpr ce
                rw [if_neg ce] at H
                obtain rfl : kd = 4 := by rw [HD.out, if_neg]; intro h_; apply ce; rw [HT.out, ByteArray.toList_eq]; exact h_
                clear hkt HT HD
                replace H := Option.bind_eq_some_iff.mp H
                obtain ⟨⟨u1, u2, u3, u4⟩, A80, H⟩ := H
                have A8 := Aside0.mk A80; clear A80
                simp only [Option.some.injEq, Prod.mk.injEq] at H
                obtain ⟨rfl, rfl, rfl, rfl, rfl, rfl, rfl, rfl, rfl, rfl⟩ := H
                skip
                go_wp2_with (first | ((with_reducible refine gate_callee (f := 25) rfl ?_); refine goesL_ (some 138) rfl rfl Tryd.func25 (by kernel_rfl) rfl #[.pointer (some ⟨g, 0, none⟩), .int .i64 (txt.size : Int)] rfl (by (try simp only [List.map_toArray, List.map_cons, List.map_nil]); first | done | rfl | (simp only [List.length_drop, List.length_take]; rfl)) ?_; (with_reducible refine (lex_lexer_skip.calls k g s1 i1 l1 c1 (txt.size : Int) u1 u2 u3 u4 w0 _ ?side1 ?side2 A8.out).mono ?_); (case side1 => exact HX.st); (case side2 => exact HX.bl); rintro e w20 ⟨rfl, hi, hb, hk⟩; refine ⟨_, rfl, ?_⟩; replace HX := NX.go HS HX hi hb hk; clear hi hb hk; have hb212_0 := (blk_cell HX.k2 0).trans (show _ = some (.int .i64 0) from rfl); have hb212_1 := (blk_cell HX.k2 1).trans (show _ = some (.string (⟨#[]⟩ : ByteArray)) from rfl); have hb212_2 := (blk_cell HX.k2 2).trans (show _ = some (.int .i64 0) from rfl); have hb212_3 := (blk_cell HX.k2 3).trans (show _ = some (.int .i64 0) from rfl); have hb212_4 := (blk_cell HX.k2 4).trans (show _ = some (.int .i64 0) from rfl); have fb212_0 := blk_frozen HX.k2 0; have fb212_1 := blk_frozen HX.k2 1; have fb212_2 := blk_frozen HX.k2 2; have fb212_3 := blk_frozen HX.k2 3; have fb212_4 := blk_frozen HX.k2 4; have hb412_0 := (blk_cell HX.k4 0).trans (show _ = some (.int .i64 4) from rfl); have hb412_1 := (blk_cell HX.k4 1).trans (show _ = some (.string txt) from rfl); have hb412_2 := (blk_cell HX.k4 2).trans (show _ = some (.int .i64 0) from rfl); have hb412_3 := (blk_cell HX.k4 3).trans (show _ = some (.int .i64 l1) from rfl); have hb412_4 := (blk_cell HX.k4 4).trans (show _ = some (.int .i64 c1) from rfl); have fb412_0 := blk_frozen HX.k4 0; have fb412_1 := blk_frozen HX.k4 1; have fb412_2 := blk_frozen HX.k4 2; have fb412_3 := blk_frozen HX.k4 3; have fb412_4 := blk_frozen HX.k4 4))
                refine bodyPost_ret (results_ct rfl _ _ b2 34 #[.int .i64 4, .string txt, .int .i64 0, .int .i64 l1, .int .i64 c1] (0, 0) _ rfl ?k2 Tryd.underlying34 rfl (by kernel_rfl)) rfl ?post
                case k2 => exact NX.k2 (w0 := w0) (w := w) (g := g) (s := u1) (i := u2) (l := u3) (c := u4) (b4 := b4) (c4 := #[.int .i64 4, .string txt, .int .i64 0, .int .i64 l1, .int .i64 c1]) (by (with_reducible repeat (first | refine NX.drewN ?_ _ | refine NX.drew ?_)); refine NX.put2 (c2 := #[.int .i64 4, .string txt, .int .i64 0, .int .i64 l1, .int .i64 0]) HS ?_ 4 _; (with_reducible repeat (first | refine NX.drewN ?_ _ | refine NX.drew ?_)); refine NX.put2 (c2 := #[.int .i64 4, .string txt, .int .i64 0, .int .i64 0, .int .i64 0]) HS ?_ 3 _; (with_reducible repeat (first | refine NX.drewN ?_ _ | refine NX.drew ?_)); refine NX.put2 (c2 := #[.int .i64 4, .string txt, .int .i64 0, .int .i64 0, .int .i64 0]) HS ?_ 2 _; (with_reducible repeat (first | refine NX.drewN ?_ _ | refine NX.drew ?_)); refine NX.put2 (c2 := #[.int .i64 4, .string (⟨#[]⟩ : ByteArray), .int .i64 0, .int .i64 0, .int .i64 0]) HS ?_ 1 _; (with_reducible repeat (first | refine NX.drewN ?_ _ | refine NX.drew ?_)); refine NX.put2 (c2 := #[.int .i64 0, .string (⟨#[]⟩ : ByteArray), .int .i64 0, .int .i64 0, .int .i64 0]) HS ?_ 0 _; (with_reducible repeat (first | refine NX.drewN ?_ _ | refine NX.drew ?_)); exact HX)
                case post => exact NX.post (b2 := b2) (c2 := #[.int .i64 4, .string txt, .int .i64 0, .int .i64 l1, .int .i64 c1]) (b4 := b4) (c4 := #[.int .i64 4, .string txt, .int .i64 0, .int .i64 l1, .int .i64 c1]) (by (with_reducible repeat (first | refine NX.drewN ?_ _ | refine NX.drew ?_)); refine NX.put2 (c2 := #[.int .i64 4, .string txt, .int .i64 0, .int .i64 l1, .int .i64 0]) HS ?_ 4 _; (with_reducible repeat (first | refine NX.drewN ?_ _ | refine NX.drew ?_)); refine NX.put2 (c2 := #[.int .i64 4, .string txt, .int .i64 0, .int .i64 0, .int .i64 0]) HS ?_ 3 _; (with_reducible repeat (first | refine NX.drewN ?_ _ | refine NX.drew ?_)); refine NX.put2 (c2 := #[.int .i64 4, .string txt, .int .i64 0, .int .i64 0, .int .i64 0]) HS ?_ 2 _; (with_reducible repeat (first | refine NX.drewN ?_ _ | refine NX.drew ?_)); refine NX.put2 (c2 := #[.int .i64 4, .string (⟨#[]⟩ : ByteArray), .int .i64 0, .int .i64 0, .int .i64 0]) HS ?_ 1 _; (with_reducible repeat (first | refine NX.drewN ?_ _ | refine NX.drew ?_)); refine NX.put2 (c2 := #[.int .i64 0, .string (⟨#[]⟩ : ByteArray), .int .i64 0, .int .i64 0, .int .i64 0]) HS ?_ 0 _; (with_reducible repeat (first | refine NX.drewN ?_ _ | refine NX.drew ?_)); exact HX) rfl
end Go.Proofs.YtfljigegjhnidaaDoor.B
