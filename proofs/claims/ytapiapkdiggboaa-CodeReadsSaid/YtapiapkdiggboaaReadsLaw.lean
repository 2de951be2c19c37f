/- CodeReads: the law for any bytes. -/
import Derived.Test.YtapiapkdiggboaaCodeLaws
import Derived.Test.YtapiapkdiggboaaOpen
import Derived.Test.YtapiapkdiggboaaReadsWalk
import Derived.KernelRfl
import Derived.WideShapes
namespace Go.Proofs.Ytapiapkdiggboaa.B
open Go.RowKit Go.Proofs.Ytapiapkdiggboaa.Mine Go.Proofs.YtapiapkdiggboaaW.PrintWords Go.Proofs.YtapiapkdiggboaaW.PrintLast Go.Proofs.YtapiapkdiggboaaW.PrintMore
set_option linter.unusedVariables false
set_option linter.unusedSimpArgs false
theorem reads_step (k : Nat) (i : Int) (l : List Int) (x : Int) (h0 : 0 ≤ i) (h1 : i ≤ 7) (hn : l.length = 13) (hr : 0 ≤ rd l (5 + i) ∧ rd l (5 + i) < 256) (hx : 0 ≤ x ∧ x < 72057594037927936) :
    palingslaw17_CodeReads.l0 (k + 1) l x i = palingslaw17_CodeReads.l0 k l (x * 256 + rd l (5 + i)) (i - 1) := by
  have e1 : wrap64 (5 + i) = 5 + i := by unfold wrap64; omega
  have e2 : wrap64 (i - 1) = i - 1 := by unfold wrap64; omega
  have e3 : IntKind.u64.wrap (IntKind.u64.wrap (x * 256) + IntKind.u64.wrap (rd l (5 + i))) = x * 256 + rd l (5 + i) := by simp only [u64_mod]; omega
  simp only [palingslaw17_CodeReads.l0]
  rw [if_pos (by omega), e1, if_pos (by omega), if_pos (by omega), e2, e3]
theorem reads_loop (l : List Int) (hn : l.length = 13) (hl : ∀ x ∈ l, 0 ≤ x ∧ x < 256) (hb : rightB (rd l 0) (rd l 1) (rd l 2) (rd l 3) (rd l 4) (numI l) = false) : palingslaw17_CodeReads.l0 19 l 0 7 = some true := by
  have g : ∀ i : Nat, 0 ≤ rd l (i : Int) ∧ rd l (i : Int) < 256 := rd_small l hl
  have g5 : 0 ≤ rd l 5 ∧ rd l 5 < 256 := g 5
  have g6 : 0 ≤ rd l 6 ∧ rd l 6 < 256 := g 6
  have g7 : 0 ≤ rd l 7 ∧ rd l 7 < 256 := g 7
  have g8 : 0 ≤ rd l 8 ∧ rd l 8 < 256 := g 8
  have g9 : 0 ≤ rd l 9 ∧ rd l 9 < 256 := g 9
  have g10 : 0 ≤ rd l 10 ∧ rd l 10 < 256 := g 10
  have g11 : 0 ≤ rd l 11 ∧ rd l 11 < 256 := g 11
  have g12 : 0 ≤ rd l 12 ∧ rd l 12 < 256 := g 12
  have w : ∀ i : Nat, wrap64 (rd l (i : Int)) = rd l (i : Int) := fun i => by
    have := g i
    exact w64 _ (by omega) (by omega)
  have w0 : wrap64 (rd l 0) = rd l 0 := w 0
  have w1 : wrap64 (rd l 1) = rd l 1 := w 1
  have w2 : wrap64 (rd l 2) = rd l 2 := w 2
  have w3 : wrap64 (rd l 3) = rd l 3 := w 3
  have w4 : wrap64 (rd l 4) = rd l 4 := w 4
  have hnum : number l 8 = 0 + rd l 5 * 1 + rd l 6 * 256 + rd l 7 * 65536 + rd l 8 * 16777216 + rd l 9 * 4294967296 + rd l 10 * 1099511627776 + rd l 11 * 281474976710656 + rd l 12 * 72057594037927936 := rfl
  have s7 : palingslaw17_CodeReads.l0 19 l 0 7 = palingslaw17_CodeReads.l0 18 l (0 * 256 + rd l 12) 6 := reads_step 18 7 l 0 (by decide) (by decide) hn g12 (by omega)
  have s6 : ∀ x, 0 ≤ x ∧ x < 72057594037927936 → palingslaw17_CodeReads.l0 18 l x 6 = palingslaw17_CodeReads.l0 17 l (x * 256 + rd l 11) 5 := fun x hx => reads_step 17 6 l x (by decide) (by decide) hn g11 hx
  have s5 : ∀ x, 0 ≤ x ∧ x < 72057594037927936 → palingslaw17_CodeReads.l0 17 l x 5 = palingslaw17_CodeReads.l0 16 l (x * 256 + rd l 10) 4 := fun x hx => reads_step 16 5 l x (by decide) (by decide) hn g10 hx
  have s4 : ∀ x, 0 ≤ x ∧ x < 72057594037927936 → palingslaw17_CodeReads.l0 16 l x 4 = palingslaw17_CodeReads.l0 15 l (x * 256 + rd l 9) 3 := fun x hx => reads_step 15 4 l x (by decide) (by decide) hn g9 hx
  have s3 : ∀ x, 0 ≤ x ∧ x < 72057594037927936 → palingslaw17_CodeReads.l0 15 l x 3 = palingslaw17_CodeReads.l0 14 l (x * 256 + rd l 8) 2 := fun x hx => reads_step 14 3 l x (by decide) (by decide) hn g8 hx
  have s2 : ∀ x, 0 ≤ x ∧ x < 72057594037927936 → palingslaw17_CodeReads.l0 14 l x 2 = palingslaw17_CodeReads.l0 13 l (x * 256 + rd l 7) 1 := fun x hx => reads_step 13 2 l x (by decide) (by decide) hn g7 hx
  have s1 : ∀ x, 0 ≤ x ∧ x < 72057594037927936 → palingslaw17_CodeReads.l0 13 l x 1 = palingslaw17_CodeReads.l0 12 l (x * 256 + rd l 6) 0 := fun x hx => reads_step 12 1 l x (by decide) (by decide) hn g6 hx
  have s0 : ∀ x, 0 ≤ x ∧ x < 72057594037927936 → palingslaw17_CodeReads.l0 12 l x 0 = palingslaw17_CodeReads.l0 11 l (x * 256 + rd l 5) (-1) := fun x hx => reads_step 11 0 l x (by decide) (by decide) hn g5 hx
  rw [s7, s6 _ (by omega), s5 _ (by omega), s4 _ (by omega), s3 _ (by omega), s2 _ (by omega), s1 _ (by omega), s0 _ (by omega)]
  have e : ((((((((0 * 256 + rd l 12) * 256 + rd l 11) * 256 + rd l 10) * 256 + rd l 9) * 256 + rd l 8) * 256 + rd l 7) * 256 + rd l 6) * 256 + rd l 5) = number l 8 := by rw [hnum]; omega
  rw [e]
  clear s7 s6 s5 s4 s3 s2 s1 s0 e hnum
  simp only [palingslaw17_CodeReads.l0]
  rw [if_neg (by decide), if_pos (by omega), if_pos (by omega), if_pos (by omega), if_pos (by omega), if_pos (by omega), w0, w1, w2, w3, w4]
  simp only [palingslaw17_right.f, Option.bind_some]
  rw [show wrap64 (number l 8) = numI l by rfl, hb]
  rfl
theorem CodeReads_true (l : List Int) (hl : ∀ x ∈ l, 0 ≤ x ∧ x < 256) : palingslaw17_CodeReads.f 20 l = some true := by
  unfold palingslaw17_CodeReads.f
  rw [head_f]
  simp only [Option.bind_some, if_true]
  split
  · rfl
  · rw [decode_f l hl]
    by_cases hn : (l.length : Int) = 13
    · have hn' : l.length = 13 := by omega
      rw [if_pos hn]
      by_cases h : rightB (rd l 0) (rd l 1) (rd l 2) (rd l 3) (rd l 4) (numI l) = true
      · rw [if_pos h]
        simp only [Option.bind_some, if_true, palingslaw17_right.f, h, bytes_f, bytes_decode l hn' hl]
        simp
      · rw [if_neg h]
        simp only [Option.bind_some]
        rw [if_neg (by decide), if_pos (by first | rfl | trivial)]
        simp only [palingslaw17_CodeReads.j0]
        rw [if_neg (by decide), if_pos hn]
        exact reads_loop l hn' hl (by simpa using h)
    · rw [if_neg hn]
      simp only [Option.bind_some]
      rw [if_neg (by decide), if_pos (by first | rfl | trivial)]
      simp only [palingslaw17_CodeReads.j0]
      rw [if_neg (by decide), if_neg hn]
theorem open_bytes {H : Type} {enc : TypeId × Value → H} {w : World} {v : Value} {d : DataW H} {p : List MemPlace} (h : Arg enc Try.prog w 27 v d p) :
    ∃ A c l, v = .slice A l.length c ∧ l.length ≤ c ∧ Kd.C (Kd.int .u8) w A l.length l ∧ ∀ x ∈ l, 0 ≤ x ∧ x < 256 := by
  obtain ⟨fuel, hr⟩ := h.read
  obtain ⟨A, n, cap, xs, h1, h2, _, h3, h4, _⟩ := trod_row (Kd.int .u8) (fun a => (Lit.int .u8 a).wf = true) Try.underlying27 (by kernel_rfl) (fun fuel cs x h => by
    obtain ⟨z, hz, _, hwf⟩ := DataW.trod_int Try.underlying5 h
    exact ⟨z, hz, hwf⟩) hr
  have hn : xs.length = n := h3.1
  subst hn
  refine ⟨A, cap, xs, ?_, h2, h3, fun x hx => u8_bounds (h4 x hx)⟩
  obtain ⟨base, hok⟩ := h.ok
  obtain ⟨a, b, c, rfl⟩ := Go.WideShapes.okWide_slice Try.underlying27 hok
  simp only [Value.cells] at h1
  cases h1
  rfl
theorem reads_walk {H : Type} {enc : TypeId × Value → H} {d : DataW H} {p : List MemPlace} (v : Value) (W : World) (h : Arg enc Try.prog W 27 v d p) :
    Calls Try.prog 4 #[v] W fun e w' => e = .returned (.bool true) ∧ Below W.heap.size W w' := by
  obtain ⟨A, c, l, rfl, hc, hr, hl⟩ := open_bytes h
  exact palingslaw17_CodeReads.calls 20 A c l true W hr hc (CodeReads_true l hl)
end Go.Proofs.Ytapiapkdiggboaa.B
