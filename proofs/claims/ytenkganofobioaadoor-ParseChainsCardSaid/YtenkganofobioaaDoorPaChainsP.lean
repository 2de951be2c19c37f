/- ParseChains' texts, in plain Lean. -/
import Derived.Test.YtenkganofobioaaDoorPaNestsP
namespace Go.Proofs.YtenkganofobioaaDoor.B
open Go.RowKit Go.Proofs.YtenkganofobioaaDoor.Mine Go.Proofs.YtenkganofobioaaDoor.Sep Go.Proofs.YtenkganofobioaaDoorW.PrintWords Go.Proofs.YtenkganofobioaaDoorW.PrintLast Go.Proofs.YtenkganofobioaaDoorW.PrintMore
set_option linter.unusedVariables false
set_option linter.unusedSimpArgs false
def chE (c : Int) : EX := bothP [61, 61] P0 (var_ [97]) (num_ c)
def chB (c : Int) : List ST := [⟨2, P0, bs [120], [num_ c], [], []⟩]
/-- An if, so many behind an else. -/
def chSt (last : Bool) : Nat → Int → ST
  | 0, c => ⟨4, P0, bs [], [chE c], chB c, if last then chB 2 else []⟩
  | j + 1, c => ⟨4, P0, bs [], [chE c], chB c, [chSt last j 1]⟩
def blTk (d : UInt8) (c : Int) : List Tk := [mkT [123], nmT [120], mkT [61], (2, [d], c), mkT [59], mkT [125]]
def cdTk (d : UInt8) (c : Int) : List Tk := [nmT [97], mkT [61, 61], (2, [d], c)] ++ blTk d c
def laTk (last : Bool) : List Tk := if last then wdT [101, 108, 115, 101] :: blTk 50 2 else []
def chTk (last : Bool) : Nat → UInt8 → Int → List Tk
  | 0, d, c => cdTk d c ++ laTk last
  | j + 1, d, c => cdTk d c ++ (wdT [101, 108, 115, 101] :: wdT [105, 102] :: chTk last j 49 1)
theorem ch_cond (d : UInt8) (c : Int) : G 5 0 (chE c) [nmT [97], mkT [61, 61], (2, [d], c)] := by
  have hx : G 2 0 (var_ [97]) [nmT [97]] := .up (by decide) (.up (by decide) (.var [97]))
  have hy : G 2 0 (num_ c) [(2, [d], c)] := .up (by decide) (.up (by decide) (.num [d] c))
  exact .up (by decide) (.up (by decide) (.bin (n := 2) (m := [61, 61]) (by decide) (.up (by decide) hx) (fun _ => hx) hy (by decide)))
theorem ch_block (d : UInt8) (c : Int) : H 1 2 (chB c) (blTk d c) := .blk (.cons .nil (.set [120] (G.num [d] c).top))
theorem ch_gram (last : Bool) : ∀ (j : Nat) (d : UInt8) (c : Int), H 2 (j + 2) [chSt last j c] (chTk last j d c)
  | 0, d, c => by
    cases last with
    | false =>
      have := H.ch (ch_cond d c) (ch_block d c)
      simpa [chTk, cdTk, laTk, chSt] using this
    | true =>
      have := H.che (ch_cond d c) (ch_block d c) (ch_block 50 2)
      simpa [chTk, cdTk, laTk, chSt] using this
  | j + 1, d, c => by
    have := H.chi (ch_cond d c) (ch_block d c) (ch_gram last j 49 1)
    have e : max (max (0 + 1) 2) (j + 2 + 1) = j + 1 + 2 := by omega
    rw [e] at this
    simpa [chTk, cdTk, chSt] using this
theorem chTk_flat (last : Bool) : ∀ (j : Nat) (d : UInt8) (c : Int), chTk last j d c = cdTk d c ++ ((List.replicate j (wdT [101, 108, 115, 101] :: wdT [105, 102] :: cdTk 49 1)).flatten ++ laTk last)
  | 0, d, c => by simp [chTk]
  | j + 1, d, c => by
    rw [chTk, chTk_flat last j 49 1, List.replicate_succ, List.flatten_cons]
    simp
def chT0 : List UInt8 := [102, 117, 110, 99, 32, 102, 40, 41, 32, 123, 32, 105, 102, 32, 97, 32, 61, 61, 32, 48, 32, 123, 32, 120, 32, 61, 32, 48, 59, 32, 125]
def chT1 : List UInt8 := [32, 101, 108, 115, 101, 32, 105, 102, 32, 97, 32, 61, 61, 32, 49, 32, 123, 32, 120, 32, 61, 32, 49, 59, 32, 125]
def chT2 : List UInt8 := [32, 101, 108, 115, 101, 32, 123, 32, 120, 32, 61, 32, 50, 59, 32, 125]
def chainT (n : Nat) (last : Bool) : List UInt8 := if last then chT0 ++ rep n chT1 ++ chT2 ++ [32, 125] else chT0 ++ rep n chT1 ++ [32, 125]
/-- What parsing such a text comes to. -/
theorem chain_parse (n : Nat) (last : Bool) (hn : n ≤ 63) : ∃ f s, parseQ 900 (chainT n last) = some (.prog [] [f]) ∧ f.f2 = [s] ∧ zS s = chSt last n 0 := by
  have hg := one_fn (H.cons .nil (H.ifs (ch_gram last n 48 0)))
  have hx : LexTo (chainT n last) ((preTk ++ (([] ++ wdT [105, 102] :: chTk last n 48 0) ++ [mkT [125]])) ++ [(0, [], 0)]) := by
    have e1 : LexTo [32, 125] ([mkT [125]] ++ [(0, [], 0)]) := lex_end (by decide +kernel)
    rw [chTk_flat]
    unfold chainT
    cases last with
    | false =>
      have e3 := lex_rep (w := chT1) (T := wdT [101, 108, 115, 101] :: wdT [105, 102] :: cdTk 49 1) (fun r tk h => lexU_to 200 chT1 _ (by decide +kernel) r tk h) n _ _ e1
      have e4 := lexU_to 200 chT0 (preTk ++ wdT [105, 102] :: cdTk 48 0) (by decide +kernel) _ _ e3
      simpa [laTk] using e4
    | true =>
      have e2 := lexU_to 200 chT2 (wdT [101, 108, 115, 101] :: blTk 50 2) (by decide +kernel) _ _ e1
      have e3 := lex_rep (w := chT1) (T := wdT [101, 108, 115, 101] :: wdT [105, 102] :: cdTk 49 1) (fun r tk h => lexU_to 200 chT1 _ (by decide +kernel) r tk h) n _ _ e2
      have e4 := lexU_to 200 chT0 (preTk ++ wdT [105, 102] :: cdTk 48 0) (by decide +kernel) _ _ e3
      simpa [laTk] using e4
  have hl : (chainT n last).length ≤ 65536 := by
    have c1 : n * chT1.length ≤ 63 * 26 := Nat.mul_le_mul hn (by decide)
    unfold chainT
    split <;> simp only [List.length_append, rep_len, chT0, chT1, chT2, List.length_cons, List.length_nil] at c1 ⊢ <;> omega
  rcases parse_of (fuel := 900) (Nat.le_refl _) hl hx hg with ⟨a, _⟩ | ⟨a, gs', fs', q1, q2, q3⟩
  · omega
  · have e1 : gs' = [] := List.map_eq_nil_iff.1 q2
    cases fs' with
    | nil => cases q3
    | cons x r =>
      rw [List.map_cons] at q3
      injection q3 with q4 q5
      rw [List.map_eq_nil_iff.1 q5, e1] at q1
      cases x with
      | mk f0 f1 f2 f3 =>
      have hf2 : f2.map zS = [chSt last n 0] := congrArg (fun x => x.f2) q4
      cases f2 with
      | nil => cases hf2
      | cons s r2 =>
        rw [List.map_cons] at hf2
        injection hf2 with h1 h2
        rw [List.map_eq_nil_iff.1 h2] at q1
        exact ⟨_, s, q1, rfl, h1⟩
theorem zS_f0 (s : ST) : (zS s).f0 = s.f0 := by cases s; rw [zS]
theorem zS_f3' (s : ST) : (zS s).f3 = s.f3.map zE := by cases s; rw [zS]; exact zEs_map _
theorem zS_f4 (s : ST) : (zS s).f4 = s.f4.map zS := by cases s; rw [zS]; exact zSs_map _
theorem zS_f5 (s : ST) : (zS s).f5 = s.f5.map zS := by cases s; rw [zS]; exact zSs_map _
/-- What the law asks of an if within the chain. -/
theorem ch_facts {s : ST} {last : Bool} {j : Nat} {c : Int} (h : zS s = chSt last j c) : s.f0 = 4 ∧ s.f3.length = 1 ∧ s.f4.length = 1 ∧ (match j with | 0 => (if last then ∃ t, s.f5 = [t] ∧ t.f0 = 2 else s.f5 = []) | j + 1 => ∃ t, s.f5 = [t] ∧ zS t = chSt last j 1) := by
  have h0 := zS_f0 s
  have h3 := congrArg List.length (zS_f3' s)
  have h4 := congrArg List.length (zS_f4 s)
  have h5 := zS_f5 s
  rw [h] at h0 h3 h4 h5
  rw [List.length_map] at h3 h4
  have one : ∀ {l : List ST} {y : ST}, [y] = l.map zS → ∃ x, l = [x] ∧ zS x = y := by
    intro l y hl
    cases l with
    | nil => cases hl
    | cons a r =>
      rw [List.map_cons] at hl
      injection hl with h1 h2
      exact ⟨a, by rw [List.map_eq_nil_iff.1 h2.symm], h1.symm⟩
  cases j with
  | zero =>
    refine ⟨h0.symm, h3.symm, h4.symm, ?_⟩
    cases last with
    | true =>
      obtain ⟨t, ht, hz⟩ := one h5
      exact ⟨t, ht, by rw [← zS_f0, hz]⟩
    | false => exact List.map_eq_nil_iff.1 h5.symm
  | succ j =>
    refine ⟨h0.symm, h3.symm, h4.symm, ?_⟩
    obtain ⟨t, ht, hz⟩ := one h5
    exact ⟨t, ht, hz⟩
end Go.Proofs.YtenkganofobioaaDoor.B
