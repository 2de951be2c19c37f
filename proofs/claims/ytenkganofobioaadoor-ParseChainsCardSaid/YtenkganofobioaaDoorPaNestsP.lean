/- ParseNests' texts, in plain Lean. -/
import Derived.Test.YtenkganofobioaaDoorPaGramL
namespace Go.Proofs.YtenkganofobioaaDoor.B
open Go.RowKit Go.Proofs.YtenkganofobioaaDoor.Mine Go.Proofs.YtenkganofobioaaDoor.Sep Go.Proofs.YtenkganofobioaaDoorW.PrintWords Go.Proofs.YtenkganofobioaaDoorW.PrintLast Go.Proofs.YtenkganofobioaaDoorW.PrintMore
set_option linter.unusedVariables false
set_option linter.unusedSimpArgs false
def rep (n : Nat) (w : List UInt8) : List UInt8 := (List.replicate n w).flatten
theorem rep_succ (n : Nat) (w : List UInt8) : rep (n + 1) w = w ++ rep n w := by unfold rep; rw [List.replicate_succ, List.flatten_cons]
theorem rep_snoc (n : Nat) (w : List UInt8) : rep (n + 1) w = rep n w ++ w := by unfold rep; rw [List.replicate_succ', List.flatten_append, List.flatten_cons, List.flatten_nil, List.append_nil]
theorem rep_len (n : Nat) (w : List UInt8) : (rep n w).length = n * w.length := by
  induction n with
  | zero => simp [rep]
  | succ n ih => rw [rep_succ, List.length_append, ih, Nat.succ_mul, Nat.add_comm]
def nOpen : Nat → List UInt8
  | 0 => [40] | 1 => [45] | 2 => [33] | 3 => [105, 102, 32, 97, 32, 123] | _ => [119, 104, 105, 108, 101, 32, 97, 32, 123]
def nShut : Nat → List UInt8
  | 0 => [41] | 1 => [] | 2 => [] | 3 => [125] | _ => [125]
def nPre : List UInt8 := [102, 117, 110, 99, 32, 102, 40, 41, 32, 123, 32, 114, 101, 116, 117, 114, 110, 32]
def nPost : List UInt8 := [59, 32, 125]
def nPre2 : List UInt8 := [102, 117, 110, 99, 32, 102, 40, 41, 32, 123, 32]
def nPost2 : List UInt8 := [32, 125]
def nestT (k n : Nat) : List UInt8 := if k < 3 then ((((nPre ++ rep n (nOpen k)) ++ [49]) ++ rep n (nShut k)) ++ nPost) else (((nPre2 ++ rep n (nOpen k)) ++ rep n (nShut k)) ++ nPost2)
def nDeep (k n : Nat) : Nat := if k < 3 then 2 + n else 1 + n
theorem lex_end {u : List UInt8} {T : List Tk} (h : lexU 200 u = some T) : LexTo u (T ++ [(0, [], 0)]) := by
  have := lexU_to 200 u T h [] _ lex_nil
  rwa [List.append_nil] at this
/-- A token's own text again and again. -/
theorem lex_rep {w : List UInt8} {T : List Tk} (h : ∀ r tk, LexTo r tk → LexTo (w ++ r) (T ++ tk)) : ∀ (n : Nat) (r : List UInt8) (tk : List Tk), LexTo r tk → LexTo (rep n w ++ r) ((List.replicate n T).flatten ++ tk)
  | 0, r, tk, hr => hr
  | n + 1, r, tk, hr => by
    rw [rep_succ, List.replicate_succ, List.flatten_cons, List.append_assoc, List.append_assoc]
    exact h _ _ (lex_rep h n r tk hr)
theorem lex_one {y : UInt8} {r : List UInt8} {tk : List Tk} (hy : isD y = false) (h : LexTo (y :: r) tk) : LexTo (49 :: y :: r) ((2, [49], 1) :: tk) :=
  lex_num (x := 49) (w := []) (by decide) (fun _ h => by simp at h) (fun q hq => by
    simp only [List.head?_cons, Option.mem_def, Option.some.injEq] at hq
    subst hq
    exact hy) (by rfl) h
theorem bang_mark (r : List UInt8) : markP (33 :: 33 :: r) = [33] ∧ markP (33 :: 49 :: r) = [33] := ⟨rfl, rfl⟩
theorem lex_bangs : ∀ (n : Nat) (r : List UInt8) (tk : List Tk), LexTo (49 :: r) tk → LexTo (rep n [33] ++ 49 :: r) ((List.replicate n [mkT [33]]).flatten ++ tk)
  | 0, r, tk, hr => hr
  | 1, r, tk, hr => lex_mark (x := 33) (w := []) (by decide) (by decide) (by decide) (fun e => absurd e (by decide)) (bang_mark r).2 hr
  | n + 2, r, tk, hr => by
    have ih := lex_bangs (n + 1) r tk hr
    rw [rep_succ] at ih
    rw [rep_succ, rep_succ, List.replicate_succ, List.flatten_cons]
    exact lex_mark (x := 33) (w := []) (by decide) (by decide) (by decide) (fun e => absurd e (by decide)) (bang_mark _).1 ih
theorem flat_snoc {α : Type} (n : Nat) (w : List α) : (List.replicate (n + 1) w).flatten = (List.replicate n w).flatten ++ w := by rw [List.replicate_succ', List.flatten_append, List.flatten_cons, List.flatten_nil, List.append_nil]
theorem nest_par : ∀ n : Nat, ∃ e, G 0 n e ((List.replicate n [mkT [40]]).flatten ++ (2, [49], 1) :: (List.replicate n [mkT [41]]).flatten)
  | 0 => ⟨_, .num [49] 1⟩
  | n + 1 => by
    obtain ⟨e, h⟩ := nest_par n
    refine ⟨e, ?_⟩
    have := G.par h.top
    rw [flat_snoc n [mkT [41]], List.replicate_succ, List.flatten_cons]
    simpa using this
theorem nest_neg : ∀ n : Nat, ∃ e, G 0 n e ((List.replicate n [mkT [45]]).flatten ++ [(2, [49], 1)])
  | 0 => ⟨_, .num [49] 1⟩
  | n + 1 => by
    obtain ⟨e, h⟩ := nest_neg n
    exact ⟨_, .neg h⟩
theorem nest_not : ∀ n : Nat, ∃ e, G 0 n e ((List.replicate n [mkT [33]]).flatten ++ [(2, [49], 1)])
  | 0 => ⟨_, .num [49] 1⟩
  | n + 1 => by
    obtain ⟨e, h⟩ := nest_not n
    exact ⟨_, .not h⟩
theorem nest_if : ∀ n : Nat, ∃ l, H 3 n l ((List.replicate n [wdT [105, 102], nmT [97], mkT [123]]).flatten ++ (List.replicate n [mkT [125]]).flatten)
  | 0 => ⟨_, .nil⟩
  | n + 1 => by
    obtain ⟨l, h⟩ := nest_if n
    have h1 := H.cons .nil (H.ifs (H.ch (G.var [97]).top (H.blk h)))
    have e : max 0 (max (0 + 1) (n + 1)) = n + 1 := by omega
    rw [e] at h1
    obtain ⟨l', hl'⟩ : ∃ l', H 3 (n + 1) l' _ := ⟨_, h1⟩
    rw [flat_snoc n [mkT [125]], List.replicate_succ, List.flatten_cons]
    exact ⟨l', by simpa using hl'⟩
theorem nest_while : ∀ n : Nat, ∃ l, H 3 n l ((List.replicate n [wdT [119, 104, 105, 108, 101], nmT [97], mkT [123]]).flatten ++ (List.replicate n [mkT [125]]).flatten)
  | 0 => ⟨_, .nil⟩
  | n + 1 => by
    obtain ⟨l, h⟩ := nest_while n
    have h1 := H.cons .nil (H.whiles (G.var [97]).top (H.blk h))
    have e : max 0 (max (0 + 1) (n + 1)) = n + 1 := by omega
    rw [e] at h1
    obtain ⟨l', hl'⟩ : ∃ l', H 3 (n + 1) l' _ := ⟨_, h1⟩
    rw [flat_snoc n [mkT [125]], List.replicate_succ, List.flatten_cons]
    exact ⟨l', by simpa using hl'⟩
def preTk : List Tk := [wdT [102, 117, 110, 99], nmT [102], mkT [40], mkT [41], mkT [123]]
theorem lex_pre {r : List UInt8} {tk : List Tk} (h : LexTo r tk) : LexTo (nPre ++ r) (preTk ++ wdT [114, 101, 116, 117, 114, 110] :: tk) := lexU_to 200 nPre (preTk ++ [wdT [114, 101, 116, 117, 114, 110]]) (by decide +kernel) r tk h
theorem lex_pre2 {r : List UInt8} {tk : List Tk} (h : LexTo r tk) : LexTo (nPre2 ++ r) (preTk ++ tk) := lexU_to 200 nPre2 preTk (by decide +kernel) r tk h
theorem lex_post : LexTo nPost ([mkT [59], mkT [125]] ++ [(0, [], 0)]) := lex_end (by decide +kernel)
theorem lex_post2 : LexTo nPost2 ([mkT [125]] ++ [(0, [], 0)]) := lex_end (by decide +kernel)
/-- One function without parameters. -/
theorem one_fn {d : Nat} {l : List ST} {ts : List Tk} (h : H 3 d l ts) : GP (max 0 (d + 1)) [] [⟨bs [102], [], l, P0⟩] (preTk ++ (ts ++ [mkT [125]])) := by
  have := GP.fn [102] [] .nil (H.blk h)
  simpa [preTk, parR] using this
theorem ret_fn {d : Nat} {e : EX} {ts : List Tk} (h : G 0 d e ts) : ∃ f, GP (2 + d) [] [f] (preTk ++ wdT [114, 101, 116, 117, 114, 110] :: (ts ++ [mkT [59], mkT [125]])) := by
  have := one_fn (H.cons .nil (H.ret h.top))
  have e : max 0 (max 0 (d + 1) + 1) = 2 + d := by omega
  rw [e] at this
  obtain ⟨f, hf⟩ : ∃ f, GP (2 + d) [] [f] _ := ⟨_, this⟩
  exact ⟨f, by simpa using hf⟩
theorem nest_nil (n : Nat) : (List.replicate n ([] : List UInt8)).flatten = [] := by
  induction n with
  | zero => rfl
  | succ n ih => rw [List.replicate_succ, List.flatten_cons, List.nil_append, ih]
theorem nest_gram (k n : Nat) (hk : k < 5) : ∃ f tk, GP (nDeep k n) [] [f] tk ∧ LexTo (nestT k n) (tk ++ [(0, [], 0)]) := by
  match k, hk with
  | 0, _ =>
    obtain ⟨e, h⟩ := nest_par n
    obtain ⟨f, hf⟩ := ret_fn h
    refine ⟨f, _, hf, ?_⟩
    show LexTo ((((nPre ++ rep n [40]) ++ [49]) ++ rep n [41]) ++ nPost) _
    have h1 := lex_rep (w := [41]) (T := [mkT [41]]) (fun r tk h => lex_safe (by decide) h) n nPost _ lex_post
    have h2 : LexTo ([49] ++ (rep n [41] ++ nPost)) ((2, [49], 1) :: ((List.replicate n [mkT [41]]).flatten ++ ([mkT [59], mkT [125]] ++ [(0, [], 0)]))) := by
      cases n with
      | zero => exact lex_one (by decide) h1
      | succ n => rw [rep_succ] at h1 ⊢; exact lex_one (by decide) h1
    have h3 := lex_pre (lex_rep (w := [40]) (T := [mkT [40]]) (fun r tk h => lex_safe (by decide) h) n _ _ h2)
    simpa only [List.append_assoc, List.cons_append, List.nil_append] using h3
  | 1, _ =>
    obtain ⟨e, h⟩ := nest_neg n
    obtain ⟨f, hf⟩ := ret_fn h
    refine ⟨f, _, hf, ?_⟩
    show LexTo ((((nPre ++ rep n [45]) ++ [49]) ++ rep n []) ++ nPost) _
    have h0 : rep n [] = [] := by unfold rep; exact nest_nil n
    have h2 : LexTo ([49] ++ nPost) ((2, [49], 1) :: ([mkT [59], mkT [125]] ++ [(0, [], 0)])) := lex_one (by decide) lex_post
    have h3 := lex_pre (lex_rep (w := [45]) (T := [mkT [45]]) (fun r tk h => lex_safe (by decide) h) n _ _ h2)
    rw [h0]
    simpa only [List.append_assoc, List.cons_append, List.nil_append] using h3
  | 2, _ =>
    obtain ⟨e, h⟩ := nest_not n
    obtain ⟨f, hf⟩ := ret_fn h
    refine ⟨f, _, hf, ?_⟩
    show LexTo ((((nPre ++ rep n [33]) ++ [49]) ++ rep n []) ++ nPost) _
    have h0 : rep n [] = [] := by unfold rep; exact nest_nil n
    have h2 : LexTo (49 :: nPost) ((2, [49], 1) :: ([mkT [59], mkT [125]] ++ [(0, [], 0)])) := lex_one (by decide) lex_post
    have h3 := lex_pre (lex_bangs n _ _ h2)
    rw [h0]
    simpa only [List.append_assoc, List.cons_append, List.nil_append] using h3
  | 3, _ =>
    obtain ⟨l, h⟩ := nest_if n
    have hf := one_fn h
    have e : max 0 (n + 1) = nDeep 3 n := by unfold nDeep; simp; omega
    rw [e] at hf
    refine ⟨_, _, hf, ?_⟩
    show LexTo (((nPre2 ++ rep n (nOpen 3)) ++ rep n [125]) ++ nPost2) _
    have h1 := lex_rep (w := [125]) (T := [mkT [125]]) (fun r tk h => lex_safe (by decide) h) n nPost2 _ lex_post2
    have h3 := lex_pre2 (lex_rep (w := nOpen 3) (T := [wdT [105, 102], nmT [97], mkT [123]]) (fun r tk h => lexU_to 200 (nOpen 3) [wdT [105, 102], nmT [97], mkT [123]] (by decide +kernel) r tk h) n _ _ h1)
    simpa only [List.append_assoc, List.cons_append, List.nil_append] using h3
  | 4, _ =>
    obtain ⟨l, h⟩ := nest_while n
    have hf := one_fn h
    have e : max 0 (n + 1) = nDeep 4 n := by unfold nDeep; simp; omega
    rw [e] at hf
    refine ⟨_, _, hf, ?_⟩
    show LexTo (((nPre2 ++ rep n (nOpen 4)) ++ rep n [125]) ++ nPost2) _
    have h1 := lex_rep (w := [125]) (T := [mkT [125]]) (fun r tk h => lex_safe (by decide) h) n nPost2 _ lex_post2
    have h3 := lex_pre2 (lex_rep (w := nOpen 4) (T := [wdT [119, 104, 105, 108, 101], nmT [97], mkT [123]]) (fun r tk h => lexU_to 200 (nOpen 4) [wdT [119, 104, 105, 108, 101], nmT [97], mkT [123]] (by decide +kernel) r tk h) n _ _ h1)
    simpa only [List.append_assoc, List.cons_append, List.nil_append] using h3
theorem open_len : ∀ k : Nat, k < 5 → (nOpen k).length ≤ 9 ∧ (nShut k).length ≤ 1 := by decide
/-- What parsing such a text comes to. -/
theorem nest_parse (k n : Nat) (hk : k < 5) (hn : n ≤ 255) : (200 < nDeep k n ∧ ∃ l c, parseQ 900 (nestT k n) = some (.fault 13 l c)) ∨ (nDeep k n ≤ 200 ∧ ∃ f, parseQ 900 (nestT k n) = some (.prog [] [f])) := by
  obtain ⟨f, tk, h1, h2⟩ := nest_gram k n hk
  have hl : (nestT k n).length ≤ 65536 := by
    obtain ⟨a, b⟩ := open_len k hk
    have c1 : n * (nOpen k).length ≤ 255 * 9 := Nat.mul_le_mul hn a
    have c2 : n * (nShut k).length ≤ 255 * 1 := Nat.mul_le_mul hn b
    unfold nestT
    split <;> simp only [List.length_append, rep_len, nPre, nPost, nPre2, nPost2, List.length_cons, List.length_nil] <;> omega
  rcases parse_of (fuel := 900) (Nat.le_refl _) hl h2 h1 with ⟨a, l, c, q⟩ | ⟨a, gs, fs, q1, q2, q3⟩
  · exact .inl ⟨a, l, c, q⟩
  · refine .inr ⟨a, ?_⟩
    have e1 : gs = [] := List.map_eq_nil_iff.1 q2
    cases fs with
    | nil => cases q3
    | cons x r =>
      rw [List.map_cons] at q3
      injection q3 with q4 q5
      rw [List.map_eq_nil_iff.1 q5] at q1
      exact ⟨x, by rw [q1, e1]⟩
end Go.Proofs.YtenkganofobioaaDoor.B
