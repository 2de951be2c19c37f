/- ParseArgs' texts, in plain Lean. -/
import Derived.Test.YtenkganofobioaaDoorPaNestsP
namespace Go.Proofs.YtenkganofobioaaDoor.B
open Go.RowKit Go.Proofs.YtenkganofobioaaDoor.Mine Go.Proofs.YtenkganofobioaaDoor.Sep Go.Proofs.YtenkganofobioaaDoorW.PrintWords Go.Proofs.YtenkganofobioaaDoorW.PrintLast Go.Proofs.YtenkganofobioaaDoorW.PrintMore
set_option linter.unusedVariables false
set_option linter.unusedSimpArgs false
def nmB (i : Nat) : List UInt8 := [110, 97 + UInt8.ofNat (i % 8)]
def argB : Nat → List UInt8
  | 0 => []
  | i + 1 => (if 0 < i then argB i ++ [44] else argB i) ++ [49]
def parB : Nat → List UInt8
  | 0 => []
  | i + 1 => (if 0 < i then parB i ++ [44, 32] else parB i) ++ nmB i
def gloB : Nat → List UInt8
  | 0 => []
  | i + 1 => gloB i ++ [118, 97, 114, 32] ++ nmB i ++ [91, 55, 93, 59]
def argsT (n m : Nat) : List UInt8 := gloB m ++ [102, 117, 110, 99, 32, 102, 40] ++ parB m ++ [41, 32, 123, 32, 103, 40] ++ argB n ++ [41, 59, 32, 125]
def argTk : Nat → List Tk
  | 0 => []
  | i + 1 => (if 0 < i then argTk i ++ [mkT [44]] else argTk i) ++ [(2, [49], 1)]
def parTk : Nat → List Tk
  | 0 => []
  | i + 1 => (if 0 < i then parTk i ++ [mkT [44]] else parTk i) ++ [nmT (nmB i)]
def gloTk : Nat → List Tk
  | 0 => []
  | i + 1 => gloTk i ++ [wdT (holdW 0), nmT (nmB i), mkT [91], (2, [55], 7), mkT [93], mkT [59]]
theorem arg_len : ∀ n : Nat, (argB n).length ≤ 2 * n
  | 0 => by simp [argB]
  | n + 1 => by
    have := arg_len n
    rw [argB]
    split <;> simp only [List.length_append, List.length_cons, List.length_nil] <;> omega
theorem par_len : ∀ n : Nat, (parB n).length ≤ 4 * n
  | 0 => by simp [parB]
  | n + 1 => by
    have := par_len n
    rw [parB]
    split <;> simp only [List.length_append, List.length_cons, List.length_nil, nmB] <;> omega
theorem glo_len : ∀ n : Nat, (gloB n).length = 10 * n
  | 0 => by simp [gloB]
  | n + 1 => by
    have := glo_len n
    rw [gloB]
    simp only [List.length_append, List.length_cons, List.length_nil, nmB]
    omega
theorem nm_facts : ∀ j : Nat, j < 8 → (isD (97 + UInt8.ofNat j) || isL (97 + UInt8.ofNat j)) = true ∧ wordList.contains [110, 97 + UInt8.ofNat j] = false ∧ lexU 200 ([118, 97, 114, 32] ++ [110, 97 + UInt8.ofNat j] ++ [91, 55, 93, 59]) = some [wdT (holdW 0), nmT [110, 97 + UInt8.ofNat j], mkT [91], (2, [55], 7), mkT [93], mkT [59]] := by
  intro j hj
  match j, hj with
  | 0, _ => exact ⟨by decide +kernel, by decide +kernel, by decide +kernel⟩
  | 1, _ => exact ⟨by decide +kernel, by decide +kernel, by decide +kernel⟩
  | 2, _ => exact ⟨by decide +kernel, by decide +kernel, by decide +kernel⟩
  | 3, _ => exact ⟨by decide +kernel, by decide +kernel, by decide +kernel⟩
  | 4, _ => exact ⟨by decide +kernel, by decide +kernel, by decide +kernel⟩
  | 5, _ => exact ⟨by decide +kernel, by decide +kernel, by decide +kernel⟩
  | 6, _ => exact ⟨by decide +kernel, by decide +kernel, by decide +kernel⟩
  | 7, _ => exact ⟨by decide +kernel, by decide +kernel, by decide +kernel⟩
theorem lex_nm (i : Nat) {y : UInt8} {r : List UInt8} {tk : List Tk} (hy : (isD y || isL y) = false) (h : LexTo (y :: r) tk) : LexTo (nmB i ++ y :: r) (nmT (nmB i) :: tk) := by
  obtain ⟨h1, h2, _⟩ := nm_facts (i % 8) (Nat.mod_lt _ (by decide))
  have := lex_name (x := 110) (w := [97 + UInt8.ofNat (i % 8)]) (r := y :: r) (by decide) (fun q hq => by
    rcases List.mem_singleton.1 hq with rfl
    exact h1) (fun q hq => by
    simp only [List.head?_cons, Option.mem_def, Option.some.injEq] at hq
    subst hq
    exact hy) h
  rw [h2] at this
  exact this
theorem lex_args : ∀ (n : Nat) (y : UInt8) (r : List UInt8) (tk : List Tk), isD y = false → LexTo (y :: r) tk → LexTo (argB n ++ y :: r) (argTk n ++ tk)
  | 0, y, r, tk, hy, h => h
  | n + 1, y, r, tk, hy, h => by
    have h1 : LexTo (49 :: y :: r) ((2, [49], 1) :: tk) := lex_one hy h
    rw [argB, argTk]
    by_cases hn : 0 < n
    · rw [if_pos hn, if_pos hn]
      have := lex_args n 44 (49 :: y :: r) (mkT [44] :: (2, [49], 1) :: tk) (by decide) (lex_safe (by decide) h1)
      simpa only [List.append_assoc, List.cons_append, List.nil_append] using this
    · obtain rfl : n = 0 := by omega
      exact h1
theorem lex_pars : ∀ (n : Nat) (y : UInt8) (r : List UInt8) (tk : List Tk), (isD y || isL y) = false → LexTo (y :: r) tk → LexTo (parB n ++ y :: r) (parTk n ++ tk)
  | 0, y, r, tk, hy, h => h
  | n + 1, y, r, tk, hy, h => by
    have h1 := lex_nm n hy h
    rw [parB, parTk]
    by_cases hn : 0 < n
    · rw [if_pos hn, if_pos hn]
      have := lex_pars n 44 (32 :: (nmB n ++ y :: r)) (mkT [44] :: nmT (nmB n) :: tk) (by decide) (lex_safe (by decide) (lex_blank (by decide) h1))
      simpa only [List.append_assoc, List.cons_append, List.nil_append] using this
    · obtain rfl : n = 0 := by omega
      exact h1
theorem lex_globs : ∀ (n : Nat) (r : List UInt8) (tk : List Tk), LexTo r tk → LexTo (gloB n ++ r) (gloTk n ++ tk)
  | 0, r, tk, h => h
  | n + 1, r, tk, h => by
    obtain ⟨_, _, h3⟩ := nm_facts (n % 8) (Nat.mod_lt _ (by decide))
    have h1 : LexTo (gloB n ++ (([118, 97, 114, 32] ++ nmB n ++ [91, 55, 93, 59]) ++ r)) (gloTk n ++ ([wdT (holdW 0), nmT (nmB n), mkT [91], (2, [55], 7), mkT [93], mkT [59]] ++ tk)) := lex_globs n _ _ (lexU_to 200 _ _ h3 r tk h)
    rw [gloB, gloTk]
    simpa only [List.append_assoc, List.cons_append, List.nil_append] using h1
theorem parR_snoc : ∀ (l : List (List UInt8)) (b : Bool) (n : List UInt8), parR b (l ++ [n]) = parR b l ++ (if b && l.isEmpty then [nmT n] else [mkT [44], nmT n])
  | [], true, n => rfl
  | [], false, n => rfl
  | x :: r, true, n => by
    rw [List.cons_append, parR, parR, parR_snoc r false n]
    simp
  | x :: r, false, n => by
    rw [List.cons_append, parR, parR, parR_snoc r false n]
    simp
theorem parTk_eq : ∀ n : Nat, parTk n = parR true ((List.range n).map nmB)
  | 0 => rfl
  | n + 1 => by
    rw [parTk, parTk_eq n, List.range_succ, List.map_append, List.map_cons, List.map_nil, parR_snoc]
    cases n with
    | zero => rfl
    | succ n =>
      rw [if_pos (by omega)]
      have : ((List.range (n + 1)).map nmB).isEmpty = false := by rw [List.range_succ, List.map_append]; cases (List.range n).map nmB <;> rfl
      rw [this]
      simp
theorem args_gram : ∀ n : Nat, ∃ l, l.length = n + 1 ∧ l ≠ [] ∧ G 9 1 ⟨5, P0, 0, bs [103], 0, l⟩ (argTk (n + 1))
  | 0 => ⟨[num_ 1], rfl, by simp, .arg1 [103] (G.num [49] 1).top⟩
  | n + 1 => by
    obtain ⟨l, h1, h2, h3⟩ := args_gram n
    refine ⟨l ++ [num_ 1], by rw [List.length_append, h1]; rfl, by simp, ?_⟩
    have := G.args [103] h3 h2 (G.num [49] 1).top
    rw [argTk, if_pos (by omega)]
    simpa using this
theorem call_gram (n : Nat) : ∃ l d, l.length = n ∧ d ≤ 1 ∧ G 0 d ⟨5, P0, 0, bs [103], 0, l⟩ (nmT [103] :: mkT [40] :: (argTk n ++ [mkT [41]])) := by
  cases n with
  | zero => exact ⟨[], 0, rfl, by decide, .call0 [103]⟩
  | succ n =>
    obtain ⟨l, h1, h2, h3⟩ := args_gram n
    exact ⟨l, 1, h1, Nat.le_refl _, .call [103] h3⟩
theorem globs_gram : ∀ m : Nat, ∃ gs, gs.length = m ∧ GP 0 gs [] (gloTk m)
  | 0 => ⟨[], rfl, .nil⟩
  | m + 1 => by
    obtain ⟨gs, h1, h2⟩ := globs_gram m
    exact ⟨_, by rw [List.length_append, h1]; rfl, .arr 0 (nmB m) [55] 7 (by decide) (by decide) (by decide) h2⟩
theorem map_one {α β : Type} {f : α → β} {l : List α} {y : β} (h : l.map f = [y]) : ∃ x, l = [x] ∧ f x = y := by
  cases l with
  | nil => cases h
  | cons a r =>
    rw [List.map_cons] at h
    injection h with h1 h2
    exact ⟨a, by rw [List.map_eq_nil_iff.1 h2], h1⟩
theorem zS_f3 (s : ST) : (zS s).f3 = s.f3.map zE := by cases s; rw [zS]; exact zEs_map _
/-- What parsing such a text comes to. -/
theorem args_parse (n m : Nat) (hn : n ≤ 31) (hm : m ≤ 31) : ∃ gs f s e, parseQ 900 (argsT n m) = some (.prog gs [f]) ∧ gs.length = m ∧ f.f1.length = m ∧ f.f2 = [s] ∧ s.f3 = [e] ∧ e.f5.length = n := by
  obtain ⟨l, d, h1, h2, h3⟩ := call_gram n
  obtain ⟨gs, g1, g2⟩ := globs_gram m
  have hb := H.blk (H.cons .nil (H.run h3 rfl))
  have hg := GP.fn [102] ((List.range m).map nmB) g2 hb
  rw [← parTk_eq] at hg
  have hx : LexTo (argsT n m) ((gloTk m ++ wdT [102, 117, 110, 99] :: nmT [102] :: mkT [40] :: (parTk m ++ mkT [41] :: mkT [123] :: (nmT [103] :: mkT [40] :: (argTk n ++ [mkT [41]]) ++ [mkT [59]] ++ [mkT [125]]))) ++ [(0, [], 0)]) := by
    have e1 : LexTo [41, 59, 32, 125] ([mkT [41], mkT [59], mkT [125]] ++ [(0, [], 0)]) := lex_end (by decide +kernel)
    have e2 := lex_args n 41 _ _ (by decide) e1
    have e3 : LexTo (41 :: 32 :: 123 :: 32 :: 103 :: 40 :: (argB n ++ [41, 59, 32, 125])) (mkT [41] :: mkT [123] :: nmT [103] :: mkT [40] :: (argTk n ++ ([mkT [41], mkT [59], mkT [125]] ++ [(0, [], 0)]))) := lexU_to 200 [41, 32, 123, 32, 103, 40] [mkT [41], mkT [123], nmT [103], mkT [40]] (by decide +kernel) _ _ e2
    have e4 := lex_pars m 41 _ _ (by decide) e3
    have e5 := lexU_to 200 [102, 117, 110, 99, 32, 102, 40] [wdT [102, 117, 110, 99], nmT [102], mkT [40]] (by decide +kernel) _ _ e4
    have e6 := lex_globs m _ _ e5
    unfold argsT
    simpa only [List.append_assoc, List.cons_append, List.nil_append] using e6
  have hl : (argsT n m).length ≤ 65536 := by
    have := arg_len n
    have := par_len m
    have := glo_len m
    unfold argsT
    simp only [List.length_append, List.length_cons, List.length_nil]
    omega
  rcases parse_of (fuel := 900) (Nat.le_refl _) hl hx hg with ⟨a, _⟩ | ⟨a, gs', fs', q1, q2, q3⟩
  · omega
  · obtain ⟨f, rfl, hf⟩ := map_one (show fs'.map zF = [_] from q3)
    cases f with
    | mk f0 f1 f2 f3 =>
    have hf1 : f1 = ((List.range m).map nmB).map bs := congrArg (fun x => x.f1) hf
    have hf2 : f2.map zS = _ := congrArg (fun x => x.f2) hf
    obtain ⟨s, rfl, hs⟩ := map_one (show f2.map zS = [_] from hf2)
    have hs3 := zS_f3 s
    rw [hs] at hs3
    obtain ⟨e, he, hz⟩ := map_one hs3.symm
    refine ⟨gs', _, s, e, q1, ?_, ?_, rfl, he, ?_⟩
    · rw [← g1, ← q2, List.length_map]
    · show f1.length = m
      rw [hf1, List.length_map, List.length_map, List.length_range]
    · have := zE_f5 e
      rw [hz] at this
      have h5 := congrArg List.length this
      rw [List.length_map] at h5
      rw [← h5, ← h1]
end Go.Proofs.YtenkganofobioaaDoor.B
