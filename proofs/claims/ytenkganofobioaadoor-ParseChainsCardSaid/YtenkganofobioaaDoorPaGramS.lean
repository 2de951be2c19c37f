/- Parsing, in plain Lean: which tokens make which statements, and how deep; the parser finds them. -/
import Derived.Test.YtenkganofobioaaDoorPaGram
namespace Go.Proofs.YtenkganofobioaaDoor.B
open Go.RowKit Go.Proofs.YtenkganofobioaaDoor.Mine Go.Proofs.YtenkganofobioaaDoor.Sep Go.Proofs.YtenkganofobioaaDoorW.PrintWords Go.Proofs.YtenkganofobioaaDoorW.PrintLast Go.Proofs.YtenkganofobioaaDoorW.PrintMore
set_option linter.unusedVariables false
set_option linter.unusedSimpArgs false
mutual
/-- A statement without places. -/
def zS : ST → ST
  | ⟨a, _, n, es, th, el⟩ => ⟨a, P0, n, zEs es, zSs th, zSs el⟩
def zSs : List ST → List ST
  | [] => []
  | x :: r => zS x :: zSs r
end
theorem zSs_map : ∀ l : List ST, zSs l = l.map zS
  | [] => by rw [zSs]; rfl
  | x :: r => by rw [zSs, zSs_map r]; rfl
theorem zE_f0 (e : EX) : (zE e).f0 = e.f0 := by cases e; rw [zE]
theorem zE_f3 (e : EX) : (zE e).f3 = e.f3 := by cases e; rw [zE]
theorem zE_f5 (e : EX) : (zE e).f5 = e.f5.map zE := by cases e; rw [zE]; exact zEs_map _
/-- Which tokens make which statements: 0 a statement, 1 a block, 2 what stands behind an if, 3 statements one behind the other. -/
inductive H : Nat → Nat → List ST → List Tk → Prop
  | lets {d e ts} (n : List UInt8) : G 5 d e ts → H 0 (d + 1) [⟨1, P0, bs n, [e], [], []⟩] (wdT [108, 101, 116] :: nmT n :: mkT [61] :: (ts ++ [mkT [59]]))
  | ret {d e ts} : G 5 d e ts → H 0 (d + 1) [⟨6, P0, bs [], [e], [], []⟩] (wdT [114, 101, 116, 117, 114, 110] :: (ts ++ [mkT [59]]))
  | set {d e ts} (n : List UInt8) : G 5 d e ts → H 0 (d + 1) [⟨2, P0, bs n, [e], [], []⟩] (nmT n :: mkT [61] :: (ts ++ [mkT [59]]))
  | put {d d' i e ts ts'} (n : List UInt8) : G 5 d i ts → G 5 d' e ts' → H 0 (max (d + 2) (d' + 1)) [⟨3, P0, bs n, [i, e], [], []⟩] (nmT n :: mkT [91] :: (ts ++ mkT [93] :: mkT [61] :: (ts' ++ [mkT [59]])))
  | run {d e ts} : G 0 d e ts → e.f0 = 5 → H 0 (d + 1) [⟨7, P0, bs [], [e], [], []⟩] (ts ++ [mkT [59]])
  | ifs {d s ts} : H 2 d [s] ts → H 0 d [s] (wdT [105, 102] :: ts)
  | whiles {d d' e b ts ts'} : G 5 d e ts → H 1 d' b ts' → H 0 (max (d + 1) d') [⟨5, P0, bs [], [e], b, []⟩] (wdT [119, 104, 105, 108, 101] :: (ts ++ ts'))
  | blk {d l ts} : H 3 d l ts → H 1 (d + 1) l (mkT [123] :: (ts ++ [mkT [125]]))
  | ch {d d' e b ts ts'} : G 5 d e ts → H 1 d' b ts' → H 2 (max (d + 1) d') [⟨4, P0, bs [], [e], b, []⟩] (ts ++ ts')
  | che {d d' d2 e b b2 ts ts' ts2} : G 5 d e ts → H 1 d' b ts' → H 1 d2 b2 ts2 → H 2 (max (max (d + 1) d') d2) [⟨4, P0, bs [], [e], b, b2⟩] (ts ++ (ts' ++ wdT [101, 108, 115, 101] :: ts2))
  | chi {d d' d2 e b s ts ts' ts2} : G 5 d e ts → H 1 d' b ts' → H 2 d2 [s] ts2 → H 2 (max (max (d + 1) d') (d2 + 1)) [⟨4, P0, bs [], [e], b, [s]⟩] (ts ++ (ts' ++ wdT [101, 108, 115, 101] :: wdT [105, 102] :: ts2))
  | nil : H 3 0 [] []
  | cons {d d' l s ts ts'} : H 3 d l ts → H 0 d' [s] ts' → H 3 (max d d') (l ++ [s]) (ts ++ ts')
/-- Nothing of an expression's kind goes on behind, and no else. -/
def noElse (rest : List Tk) : Prop := ∃ t r, rest = t :: r ∧ headT_ [101, 108, 115, 101] t = false
theorem G.noE {n d : Nat} {e : EX} {ts : List Tk} (h : G n d e ts) : ∃ t r, ts = t :: r ∧ headT_ [101, 108, 115, 101] t = false ∧ headT_ [125] t = false ∧ headT_ [108, 101, 116] t = false ∧ headT_ [105, 102] t = false ∧ headT_ [119, 104, 105, 108, 101] t = false ∧ headT_ [114, 101, 116, 117, 114, 110] t = false := by
  induction h with
  | num t v => exact ⟨_, _, rfl, headT_num _ _ _, headT_num _ _ _, headT_num _ _ _, headT_num _ _ _, headT_num _ _ _, headT_num _ _ _⟩
  | tru => exact ⟨_, _, rfl, by decide⟩
  | fal => exact ⟨_, _, rfl, by decide⟩
  | var n => exact ⟨_, _, rfl, headT_name _ _, headT_name _ _, headT_name _ _, headT_name _ _, headT_name _ _, headT_name _ _⟩
  | par h ih => exact ⟨_, _, rfl, by decide⟩
  | idx n h ih => exact ⟨_, _, rfl, headT_name _ _, headT_name _ _, headT_name _ _, headT_name _ _, headT_name _ _, headT_name _ _⟩
  | not h ih => exact ⟨_, _, rfl, by decide⟩
  | neg h ih => exact ⟨_, _, rfl, by decide⟩
  | call0 n => exact ⟨_, _, rfl, headT_name _ _, headT_name _ _, headT_name _ _, headT_name _ _, headT_name _ _, headT_name _ _⟩
  | call n h ih => exact ⟨_, _, rfl, headT_name _ _, headT_name _ _, headT_name _ _, headT_name _ _, headT_name _ _, headT_name _ _⟩
  | arg1 n h ih => exact ih
  | args n h hl h' ih ih' =>
    obtain ⟨t, r, rfl, h1⟩ := ih
    exact ⟨t, _, rfl, h1⟩
  | up hn h ih => exact ih
  | bin hn h h2 h' hm ih _ ih' =>
    obtain ⟨t, r, rfl, h1⟩ := ih
    exact ⟨t, _, rfl, h1⟩
theorem H.first {k d : Nat} {l : List ST} {ts : List Tk} (h : H k d l ts) : k = 0 → ∃ t r, ts = t :: r ∧ headT_ [101, 108, 115, 101] t = false ∧ headT_ [125] t = false := by
  intro hk
  cases h with
  | lets n h => exact ⟨_, _, rfl, by decide⟩
  | ret h => exact ⟨_, _, rfl, by decide⟩
  | set n h => exact ⟨_, _, rfl, headT_name _ _, headT_name _ _⟩
  | put n h h' => exact ⟨_, _, rfl, headT_name _ _, headT_name _ _⟩
  | run h h5 =>
    obtain ⟨t, r, rfl, h1, h2, _⟩ := h.noE
    exact ⟨t, _, rfl, h1, h2⟩
  | ifs h => exact ⟨_, _, rfl, by decide⟩
  | whiles h h' => exact ⟨_, _, rfl, by decide⟩
  | _ => cases hk
def SOut (p : Option (ST × PS)) (x : ST) (deep : Int) (rest : List Tk) (d : Nat) : Prop :=
  ∃ x' s', p = some (x', s') ∧ s'.deep = deep ∧ ((deep + d ≤ 200 ∧ s'.e = 0 ∧ s'.ts.map er = rest ∧ zS x' = x) ∨ (200 < deep + d ∧ s'.e = 13))
def BOut (p : Option (List ST × PS)) (x : List ST) (deep : Int) (rest : List Tk) (d : Nat) : Prop :=
  ∃ x' s', p = some (x', s') ∧ s'.deep = deep ∧ ((deep + d ≤ 200 ∧ s'.e = 0 ∧ s'.ts.map er = rest ∧ x'.map zS = x) ∨ (200 < deep + d ∧ s'.e = 13))
/-- Statements so far. -/
def SsOut (F : Fns) (K : Nat) (l : List ST) (s : PS) (rest : List Tk) (D : Int) (d : Nat) : Prop :=
  (200 < D + d ∧ ∃ l' s', stmtsP F K [] s = some (l', s') ∧ s'.e = 13 ∧ s'.deep = D) ∨
  (D + d ≤ 200 ∧ ∃ l' s' K', At s' rest D ∧ l'.map zS = l ∧ s'.ts.length < K' ∧ stmtsP F K [] s = stmtsP F K' l' s')
def Fs (c : Int) (D : Int) (K : Nat) : Prop := 4 * (201 - D) + c ≤ (K : Int)
/-- What is shown of a derivation. -/
def MotS (k d : Nat) (l : List ST) (ts : List Tk) : Prop := ∀ (K : Nat) (D : Int) (s : PS) (rest : List Tk), At s (ts ++ rest) D → 0 ≤ D → D ≤ 200 →
  (k = 0 → noElse rest → Fs 4 D K → ∀ x, l = [x] → SOut (stmtP (fnsF K) s) x D rest d) ∧
  (k = 1 → Fs 0 D K → BOut (blockP (fnsF K) s) l D rest d) ∧
  (k = 2 → noElse rest → Fs 2 D K → ∀ x, l = [x] → ∀ st : ST, zS st = ⟨0, P0, bs [], [], [], []⟩ → SOut (choiceP (fnsF K) st s) x D rest d) ∧
  (k = 3 → noElse rest → Fs 4 D K → ∀ K', s.ts.length < K' → SsOut (fnsF K) K' l s rest D d)
theorem bad_stmts {s : PS} (h : badP s = true) (F : Fns) (k : Nat) (l : List ST) : stmtsP F (k + 1) l s = some (l, s) := by rw [stmtsP, h]; rfl
theorem bad_block {s : PS} (h : badP s = true) (F : Fns) : blockP F s = some ([], s) := by
  unfold blockP
  simp only [bad_want h, bad_down h]
  rfl
theorem SOut.fine {x x' : ST} {s' : PS} {D : Int} {rest : List Tk} {d : Nat} (h1 : At s' rest D) (h2 : D + d ≤ 200) (h3 : zS x' = x) : SOut (some (x', s')) x D rest d := ⟨x', s', rfl, h1.deep, .inl ⟨h2, h1.ok, h1.toks, h3⟩⟩
theorem SOut.deepF {x : ST} {s' : PS} {D : Int} {rest : List Tk} {d : Nat} {x' : ST} (h1 : s'.e = 13) (h2 : s'.deep = D) (h3 : 200 < D + d) : SOut (some (x', s')) x D rest d := ⟨x', s', rfl, h2, .inr ⟨h3, h1⟩⟩
theorem BOut.fine {x x' : List ST} {s' : PS} {D : Int} {rest : List Tk} {d : Nat} (h1 : At s' rest D) (h2 : D + d ≤ 200) (h3 : x'.map zS = x) : BOut (some (x', s')) x D rest d := ⟨x', s', rfl, h1.deep, .inl ⟨h2, h1.ok, h1.toks, h3⟩⟩
theorem BOut.deepF {x : List ST} {s' : PS} {D : Int} {rest : List Tk} {d : Nat} {x' : List ST} (h1 : s'.e = 13) (h2 : s'.deep = D) (h3 : 200 < D + d) : BOut (some (x', s')) x D rest d := ⟨x', s', rfl, h2, .inr ⟨h3, h1⟩⟩
theorem Fs.fu {c D : Int} {K : Nat} (h : Fs c D K) (hD : D ≤ 200) (hc : 0 ≤ c) : Fu D (K + 2) := by
  unfold Fs at h
  unfold Fu
  omega
theorem Fs.fu2 {c D : Int} {K : Nat} (h : Fs c D K) (hD : D ≤ 200) (hc : 2 ≤ c) : Fu D K := by
  unfold Fs at h
  unfold Fu
  omega
/-- A ; behind a statement. -/
theorem semi_out {p : Option (ST × PS)} {x : ST} {D : Int} {rest : List Tk} {d : Nat} (h : SOut p x D (mkT [59] :: rest) d) : SOut (semi p) x D rest d := by
  obtain ⟨x', s', rfl, q2, q3⟩ := h
  unfold semi
  rcases q3 with ⟨a, b, c, z⟩ | ⟨a, b⟩
  · have h2 : At s' (mkT [59] :: rest) D := ⟨b, c, q2⟩
    show SOut (some (x', wantP s' (bs [59]))) x D rest d
    rw [h2.want (by decide)]
    exact .fine (h2.skip (by decide)) a z
  · show SOut (some (x', wantP s' (bs [59]))) x D rest d
    rw [bad_want (bad_13 b)]
    exact .deepF b q2 a
theorem close59 (r : List Tk) : noOp 5 (mkT [59] :: r) := noOp_close 5 [59] (by decide) (by decide) (by decide) r
theorem zS_e (a : Int) (p : S32) (n : ByteArray) (e : EX) {z : EX} (h : zE e = z) : zS ⟨a, p, n, [e], [], []⟩ = ⟨a, P0, n, [z], [], []⟩ := by
  rw [zS, zEs, zEs, zSs, h]
/-- The statement behind its first word, where none of the words stands there. -/
theorem At.turn {s : PS} {t : Tk} {r : List Tk} {D : Int} (h : At s (t :: r) D) (h1 : headT_ [108, 101, 116] t = false) (h2 : headT_ [105, 102] t = false) (h3 : headT_ [119, 104, 105, 108, 101] t = false) (h4 : headT_ [114, 101, 116, 117, 114, 110] t = false) (F : Fns) :
    stmtP F s = semi (turnP F ⟨0, (nowP s).f3, bs [], [], [], []⟩ s) := by
  unfold stmtP
  simp only [h.take_no h1, h.take_no h2, h.take_no h3, h.take_no h4, Bool.false_eq_true, if_false]
set_option maxHeartbeats 4000000 in
theorem H.mot {k d : Nat} {l : List ST} {ts : List Tk} (hg : H k d l ts) : MotS k d l ts := by
  induction hg with
  | @lets d e ts n hg =>
    intro K D s rest h h0 h1
    refine ⟨fun _ hn hK x hx => ?_, fun e => (by cases e), fun e => (by cases e), fun e => (by cases e)⟩
    obtain rfl := List.head_eq_of_cons_eq hx
    have h : At s (wdT [108, 101, 116] :: nmT n :: mkT [61] :: (ts ++ (mkT [59] :: rest))) D := by simpa using h
    have h2 := h.skip (by decide)
    have h3 := h2.skip (by simp)
    have h4 := h3.skip (by decide)
    unfold stmtP
    simp only [h.take_yes (x := [108, 101, 116]) (by decide), h2.name, h3.want (x := [61]) (by decide), if_true]
    obtain ⟨e', s', q1, q2, q3⟩ := whole_out hg.mot h4 h0 h1 (hK.fu2 h1 (by decide)) (close59 rest)
    rw [q1]
    refine semi_out ?_
    rcases q3 with ⟨a, b, c, z⟩ | ⟨a, b⟩
    · exact .fine ⟨b, c, q2⟩ a (zS_e 1 _ _ e' z)
    · exact .deepF b q2 a
  | @ret d e ts hg =>
    intro K D s rest h h0 h1
    refine ⟨fun _ hn hK x hx => ?_, fun e => (by cases e), fun e => (by cases e), fun e => (by cases e)⟩
    obtain rfl := List.head_eq_of_cons_eq hx
    have h : At s (wdT [114, 101, 116, 117, 114, 110] :: (ts ++ (mkT [59] :: rest))) D := by simpa using h
    have h2 := h.skip (by decide)
    unfold stmtP
    simp only [h.take_no (x := [108, 101, 116]) (by decide), h.take_no (x := [105, 102]) (by decide), h.take_no (x := [119, 104, 105, 108, 101]) (by decide), h.take_yes (x := [114, 101, 116, 117, 114, 110]) (by decide), if_true, Bool.false_eq_true, if_false]
    obtain ⟨e', s', q1, q2, q3⟩ := whole_out hg.mot h2 h0 h1 (hK.fu2 h1 (by decide)) (close59 rest)
    rw [q1]
    refine semi_out ?_
    rcases q3 with ⟨a, b, c, z⟩ | ⟨a, b⟩
    · exact .fine ⟨b, c, q2⟩ a (zS_e 6 _ _ e' z)
    · exact .deepF b q2 a
  | @set d e ts n hg =>
    intro K D s rest h h0 h1
    refine ⟨fun _ hn hK x hx => ?_, fun e => (by cases e), fun e => (by cases e), fun e => (by cases e)⟩
    obtain rfl := List.head_eq_of_cons_eq hx
    have h : At s ([nmT n] ++ (mkT [61] :: (ts ++ (mkT [59] :: rest)))) D := by simpa using h
    have h' : At s (nmT n :: mkT [61] :: (ts ++ (mkT [59] :: rest))) D := h
    rw [h'.turn (headT_name _ _) (headT_name _ _) (headT_name _ _) (headT_name _ _)]
    refine semi_out ?_
    obtain ⟨v, s1, q1, q2, q3⟩ := whole_out (G.up (by decide) (G.up (by decide) (G.up (by decide) (G.up (by decide) (G.up (by decide) (G.var n)))))).mot h h0 h1 (hK.fu2 h1 (by decide)) (noOp_close 5 [61] (by decide) (by decide) (by decide) _)
    unfold turnP
    rw [q1]
    rcases q3 with ⟨a, b, c, z⟩ | ⟨a, b⟩
    · have g1 : At s1 (mkT [61] :: (ts ++ (mkT [59] :: rest))) D := ⟨b, c, q2⟩
      have k3 : v.f0 = 3 := by rw [← zE_f0, z]
      have kn : v.f3 = bs n := by rw [← zE_f3, z]
      simp only [g1.good, Bool.false_eq_true, if_false, k3, g1.take_yes (x := [61]) (by decide), beq_self_eq_true, Bool.and_true, if_true, kn]
      obtain ⟨e', s', r1, r2, r3⟩ := whole_out hg.mot (g1.skip (by decide)) h0 h1 (hK.fu2 h1 (by decide)) (close59 rest)
      rw [r1]
      rcases r3 with ⟨a2, b2, c2, z2⟩ | ⟨a2, b2⟩
      · exact .fine ⟨b2, c2, r2⟩ a2 (zS_e 2 _ _ e' z2)
      · exact .deepF b2 r2 a2
    · simp only [bad_13 b, if_true]
      exact .deepF b q2 (by omega)
  | @put d d' i e ts ts' n hg hg' =>
    intro K D s rest h h0 h1
    refine ⟨fun _ hn hK x hx => ?_, fun e => (by cases e), fun e => (by cases e), fun e => (by cases e)⟩
    obtain rfl := List.head_eq_of_cons_eq hx
    have h : At s ((nmT n :: mkT [91] :: (ts ++ [mkT [93]])) ++ (mkT [61] :: (ts' ++ (mkT [59] :: rest)))) D := by simpa using h
    have h' : At s (nmT n :: ((mkT [91] :: (ts ++ [mkT [93]])) ++ (mkT [61] :: (ts' ++ (mkT [59] :: rest))))) D := h
    rw [h'.turn (headT_name _ _) (headT_name _ _) (headT_name _ _) (headT_name _ _)]
    refine semi_out ?_
    obtain ⟨v, s1, q1, q2, q3⟩ := whole_out (G.up (by decide) (G.up (by decide) (G.up (by decide) (G.up (by decide) (G.up (by decide) (G.idx n hg)))))).mot h h0 h1 (hK.fu2 h1 (by decide)) (noOp_close 5 [61] (by decide) (by decide) (by decide) _)
    unfold turnP
    rw [q1]
    rcases q3 with ⟨a, b, c, z⟩ | ⟨a, b⟩
    · have g1 : At s1 (mkT [61] :: (ts' ++ (mkT [59] :: rest))) D := ⟨b, c, q2⟩
      have k3 : v.f0 = 4 := by rw [← zE_f0, z]
      have kn : v.f3 = bs n := by rw [← zE_f3, z]
      have k5 : v.f5.map zE = [i] := by rw [← zE_f5, z]
      obtain ⟨i', hi', hi2⟩ : ∃ i', v.f5 = [i'] ∧ zE i' = i := by
        cases hv : v.f5 with
        | nil => rw [hv] at k5; cases k5
        | cons x r =>
          rw [hv, List.map_cons] at k5
          injection k5 with k6 k7
          exact ⟨x, by rw [List.map_eq_nil_iff.1 k7], k6⟩
      simp only [g1.good, Bool.false_eq_true, if_false, k3, g1.take_yes (x := [61]) (by decide), show ((4 : Int) == 3) = false from rfl, Bool.false_and, beq_self_eq_true, Bool.and_true, if_true, kn, hi']
      obtain ⟨e', s', r1, r2, r3⟩ := whole_out hg'.mot (g1.skip (by decide)) h0 h1 (hK.fu2 h1 (by decide)) (close59 rest)
      rw [r1]
      rcases r3 with ⟨a2, b2, c2, z2⟩ | ⟨a2, b2⟩
      · refine .fine ⟨b2, c2, r2⟩ (by omega) ?_
        rw [zS, zEs, zEs, zEs, zSs, z2]
        show (⟨3, P0, bs n, [zE i', e], [], []⟩ : ST) = _
        rw [hi2]
      · exact .deepF b2 r2 (by omega)
    · simp only [bad_13 b, if_true]
      exact .deepF b q2 (by omega)
  | @run d e ts hg h5 =>
    intro K D s rest h h0 h1
    refine ⟨fun _ hn hK x hx => ?_, fun e => (by cases e), fun e => (by cases e), fun e => (by cases e)⟩
    obtain rfl := List.head_eq_of_cons_eq hx
    have h : At s (ts ++ (mkT [59] :: rest)) D := by simpa using h
    obtain ⟨v, s1, q1, q2, q3⟩ := whole_out (G.up (by decide) (G.up (by decide) (G.up (by decide) (G.up (by decide) (G.up (by decide) hg))))).mot h h0 h1 (hK.fu2 h1 (by decide)) (close59 rest)
    obtain ⟨t, r, rfl, f1, f2, f3, f4, f5, f6⟩ := hg.noE
    have h' : At s (t :: (r ++ (mkT [59] :: rest))) D := h
    rw [h'.turn f3 f4 f5 f6]
    refine semi_out ?_
    unfold turnP
    rw [q1]
    rcases q3 with ⟨a, b, c, z⟩ | ⟨a, b⟩
    · have g1 : At s1 (mkT [59] :: rest) D := ⟨b, c, q2⟩
      have k5 : v.f0 = 5 := by rw [← zE_f0, z, h5]
      simp only [g1.good, Bool.false_eq_true, if_false, k5, show ((5 : Int) == 3) = false from rfl, show ((5 : Int) == 4) = false from rfl, Bool.false_and, beq_self_eq_true, if_true]
      exact .fine g1 a (zS_e 7 _ _ v z)
    · simp only [bad_13 b, if_true]
      exact .deepF b q2 a
  | @ifs d s ts hg ih =>
    intro K D s rest h h0 h1
    refine ⟨fun _ hn hK x hx => ?_, fun e => (by cases e), fun e => (by cases e), fun e => (by cases e)⟩
    have h : At s (wdT [105, 102] :: (ts ++ rest)) D := by simpa using h
    unfold stmtP
    simp only [h.take_no (x := [108, 101, 116]) (by decide), h.take_yes (x := [105, 102]) (by decide), if_true, Bool.false_eq_true, if_false]
    unfold Fs at hK
    obtain ⟨K, rfl⟩ : ∃ k, K = k + 1 := ⟨K - 1, by omega⟩
    exact ((ih K D _ rest (h.skip (by decide)) h0 h1).2.2.1 rfl hn (by unfold Fs; omega) x hx ⟨0, (nowP s).f3, bs [], [], [], []⟩ (by simp only [zS, zEs, zSs]))
  | @whiles d d' e b ts ts' hg hg' ih =>
    intro K D s rest h h0 h1
    refine ⟨fun _ hn hK x hx => ?_, fun e => (by cases e), fun e => (by cases e), fun e => (by cases e)⟩
    obtain rfl := List.head_eq_of_cons_eq hx
    have h : At s (wdT [119, 104, 105, 108, 101] :: (ts ++ (ts' ++ rest))) D := by simpa using h
    have hob : noOp 5 (ts' ++ rest) := by
      cases hg' with
      | blk hg2 => exact noOp_close 5 [123] (by decide) (by decide) (by decide) _
    unfold stmtP
    simp only [h.take_no (x := [108, 101, 116]) (by decide), h.take_no (x := [105, 102]) (by decide), h.take_yes (x := [119, 104, 105, 108, 101]) (by decide), if_true, Bool.false_eq_true, if_false]
    obtain ⟨e', s1, q1, q2, q3⟩ := whole_out hg.mot (h.skip (by decide)) h0 h1 (hK.fu2 h1 (by decide)) hob
    rw [q1]
    unfold Fs at hK
    obtain ⟨K, rfl⟩ : ∃ k, K = k + 1 := ⟨K - 1, by omega⟩
    show SOut (match blockP (fnsF K) s1 with | none => none | some (b, s2) => some (⟨5, _, _, [e'], b, _⟩, s2)) _ D rest _
    rcases q3 with ⟨a, b1, c, z⟩ | ⟨a, b1⟩
    · have g1 : At s1 (ts' ++ rest) D := ⟨b1, c, q2⟩
      obtain ⟨b', s2, r1, r2, r3⟩ := (ih K D s1 _ g1 h0 h1).2.1 rfl (by unfold Fs; omega)
      rw [r1]
      rcases r3 with ⟨a2, b2, c2, z2⟩ | ⟨a2, b2⟩
      · refine .fine ⟨b2, c2, r2⟩ (by omega) ?_
        rw [zS, zEs, zEs, zSs, zSs_map, z2, z]
      · exact .deepF b2 r2 (by omega)
    · rw [bad_block (bad_13 b1)]
      exact .deepF b1 q2 (by omega)
  | @blk d l ts hg ih =>
    intro K D s rest h h0 h1
    refine ⟨fun e => (by cases e), fun _ hK => ?_, fun e => (by cases e), fun e => (by cases e)⟩
    have h : At s (mkT [123] :: (ts ++ (mkT [125] :: rest))) D := by simpa using h
    unfold Fs at hK
    unfold blockP
    rw [h.want (by decide)]
    have h2 := h.skip (by decide)
    by_cases hD : D < 200
    · obtain ⟨g1, g2⟩ := h2.down hD
      simp only [g1, if_true]
      have hs := (ih K (D + 1) _ _ g2 (by omega) (by omega)).2.2.2 rfl ⟨_, _, rfl, by decide⟩ (by unfold Fs; omega) ((downP (skipP s)).2.ts.length + 2) (by omega)
      rcases hs with ⟨a, l', s', q1, q2, q3⟩ | ⟨a, l', s', K', q1, q2, q3, q4⟩
      · rw [q1]
        show BOut (some (l', upP (wantP s' (bs [125])))) _ D rest _
        rw [bad_want (bad_13 q2)]
        exact .deepF q2 (by show s'.deep - 1 = D; omega) (by omega)
      · rw [q4]
        cases K' with
        | zero => omega
        | succ K' =>
          rw [stmtsP, q1.good, q1.is, show headT_ [125] (mkT [125]) = true from by decide, if_neg (by decide)]
          show BOut (some (l', upP (wantP s' (bs [125])))) _ D rest _
          rw [q1.want (by decide)]
          have h3 := q1.skip (by decide)
          exact .fine ⟨h3.ok, h3.toks, by show (skipP s').deep - 1 = D; rw [h3.deep]; omega⟩ (by omega) q2
    · obtain ⟨g1, g2, g3⟩ := h2.down_not (by omega)
      simp only [g1, Bool.false_eq_true, if_false]
      exact .deepF g2 g3 (by omega)
  | @ch d d' e b ts ts' hg hg' ih =>
    intro K D s rest h h0 h1
    refine ⟨fun e => (by cases e), fun e => (by cases e), fun _ hn hK x hx st hst => ?_, fun e => (by cases e)⟩
    obtain rfl := List.head_eq_of_cons_eq hx
    have h : At s (ts ++ (ts' ++ rest)) D := by simpa using h
    have hob : noOp 5 (ts' ++ rest) := by
      cases hg' with
      | blk hg2 => exact noOp_close 5 [123] (by decide) (by decide) (by decide) _
    unfold choiceP
    obtain ⟨e', s1, q1, q2, q3⟩ := whole_out hg.mot h h0 h1 (hK.fu2 h1 (by decide)) hob
    rw [q1]
    unfold Fs at hK
    obtain ⟨K, rfl⟩ : ∃ k, K = k + 1 := ⟨K - 1, by omega⟩
    simp only [show (fnsF (K + 1)).block = blockP (fnsF K) from rfl]
    cases st with
    | mk x0 x1 x2 x3 x4 x5 =>
    rw [zS] at hst
    simp only [S45.mk.injEq] at hst
    rcases q3 with ⟨a, b1, c, z⟩ | ⟨a, b1⟩
    · have g1 : At s1 (ts' ++ rest) D := ⟨b1, c, q2⟩
      obtain ⟨b', s2, r1, r2, r3⟩ := (ih K D s1 _ g1 h0 h1).2.1 rfl (by unfold Fs; omega)
      rw [r1]
      rcases r3 with ⟨a2, b2, c2, z2⟩ | ⟨a2, b2⟩
      · have g2 : At s2 rest D := ⟨b2, c2, r2⟩
        obtain ⟨t, r, rfl, hne⟩ := hn
        simp only [g2.take_no hne, Bool.false_eq_true, if_false]
        refine .fine g2 (by omega) ?_
        rw [zS, zEs, zEs, zSs_map, z2, z, hst.2.2.2.2.2, hst.2.2.1]
      · simp only [bad_take (bad_13 b2), Bool.false_eq_true, if_false]
        exact .deepF b2 r2 (by omega)
    · rw [bad_block (bad_13 b1)]
      simp only [bad_take (bad_13 b1), Bool.false_eq_true, if_false]
      exact .deepF b1 q2 (by omega)
  | @che d d' d2 e b b2 ts ts' ts2 hg hg' hg2 ih ih2 =>
    intro K D s rest h h0 h1
    refine ⟨fun e => (by cases e), fun e => (by cases e), fun _ hn hK x hx st hst => ?_, fun e => (by cases e)⟩
    obtain rfl := List.head_eq_of_cons_eq hx
    have h : At s (ts ++ (ts' ++ (wdT [101, 108, 115, 101] :: (ts2 ++ rest)))) D := by simpa using h
    have hob : noOp 5 (ts' ++ (wdT [101, 108, 115, 101] :: (ts2 ++ rest))) := by
      cases hg' with
      | blk hg2 => exact noOp_close 5 [123] (by decide) (by decide) (by decide) _
    unfold choiceP
    obtain ⟨e', s1, q1, q2, q3⟩ := whole_out hg.mot h h0 h1 (hK.fu2 h1 (by decide)) hob
    rw [q1]
    unfold Fs at hK
    obtain ⟨K, rfl⟩ : ∃ k, K = k + 1 := ⟨K - 1, by omega⟩
    simp only [show (fnsF (K + 1)).block = blockP (fnsF K) from rfl]
    cases st with
    | mk x0 x1 x2 x3 x4 x5 =>
    rw [zS] at hst
    simp only [S45.mk.injEq] at hst
    rcases q3 with ⟨a, b1, c, z⟩ | ⟨a, b1⟩
    · have g1 : At s1 (ts' ++ (wdT [101, 108, 115, 101] :: (ts2 ++ rest))) D := ⟨b1, c, q2⟩
      -- the block: what is behind it is an else; it asks for none
      obtain ⟨b', s2, r1, r2, r3⟩ := (ih K D s1 _ g1 h0 h1).2.1 rfl (by unfold Fs; omega)
      rw [r1]
      rcases r3 with ⟨a2, b2, c2, z2⟩ | ⟨a2, b2⟩
      · have g2 : At s2 (wdT [101, 108, 115, 101] :: (ts2 ++ rest)) D := ⟨b2, c2, r2⟩
        have g3 := g2.skip (by decide)
        have hni : (takeP (skipP s2) (bs [105, 102])) = (false, skipP s2) := by
          cases hg2 with
          | blk hg3 => exact (show At (skipP s2) (mkT [123] :: _) D from by simpa using g3).take_no (by decide)
        simp only [g2.take_yes (x := [101, 108, 115, 101]) (by decide), if_true, hni, Bool.false_eq_true, if_false]
        obtain ⟨b4, s4, u1, u2, u3⟩ := (ih2 K D (skipP s2) rest g3 h0 h1).2.1 rfl (by unfold Fs; omega)
        rw [u1]
        rcases u3 with ⟨a5, b5, c5, z5⟩ | ⟨a5, b5⟩
        · refine .fine ⟨b5, c5, u2⟩ (by omega) ?_
          rw [zS, zEs, zEs, zSs_map, zSs_map, z2, z, z5, hst.2.2.1]
        · exact .deepF b5 u2 (by omega)
      · simp only [bad_take (bad_13 b2), Bool.false_eq_true, if_false]
        exact .deepF b2 r2 (by omega)
    · rw [bad_block (bad_13 b1)]
      simp only [bad_take (bad_13 b1), Bool.false_eq_true, if_false]
      exact .deepF b1 q2 (by omega)
  | @chi d d' d2 e b s0 ts ts' ts2 hg hg' hg2 ih ih2 =>
    intro K D s rest h h0 h1
    refine ⟨fun e => (by cases e), fun e => (by cases e), fun _ hn hK x hx st hst => ?_, fun e => (by cases e)⟩
    obtain rfl := List.head_eq_of_cons_eq hx
    have h : At s (ts ++ (ts' ++ (wdT [101, 108, 115, 101] :: wdT [105, 102] :: (ts2 ++ rest)))) D := by simpa using h
    have hob : noOp 5 (ts' ++ (wdT [101, 108, 115, 101] :: wdT [105, 102] :: (ts2 ++ rest))) := by
      cases hg' with
      | blk hg2 => exact noOp_close 5 [123] (by decide) (by decide) (by decide) _
    unfold choiceP
    obtain ⟨e', s1, q1, q2, q3⟩ := whole_out hg.mot h h0 h1 (hK.fu2 h1 (by decide)) hob
    rw [q1]
    unfold Fs at hK
    obtain ⟨K, rfl⟩ : ∃ k, K = k + 1 := ⟨K - 1, by omega⟩
    simp only [show (fnsF (K + 1)).block = blockP (fnsF K) from rfl, show (fnsF (K + 1)).choice = choiceP (fnsF K) from rfl]
    cases st with
    | mk x0 x1 x2 x3 x4 x5 =>
    rw [zS] at hst
    simp only [S45.mk.injEq] at hst
    rcases q3 with ⟨a, b1, c, z⟩ | ⟨a, b1⟩
    · have g1 : At s1 (ts' ++ (wdT [101, 108, 115, 101] :: wdT [105, 102] :: (ts2 ++ rest))) D := ⟨b1, c, q2⟩
      obtain ⟨b', s2, r1, r2, r3⟩ := (ih K D s1 _ g1 h0 h1).2.1 rfl (by unfold Fs; omega)
      rw [r1]
      rcases r3 with ⟨a2, b2, c2, z2⟩ | ⟨a2, b2⟩
      · have g2 : At s2 (wdT [101, 108, 115, 101] :: wdT [105, 102] :: (ts2 ++ rest)) D := ⟨b2, c2, r2⟩
        have g3 := g2.skip (by decide)
        have g4 := g3.skip (by decide)
        simp only [g2.take_yes (x := [101, 108, 115, 101]) (by decide), g3.take_yes (x := [105, 102]) (by decide), if_true]
        by_cases hD : D < 200
        · obtain ⟨w1, w2⟩ := g4.down hD
          simp only [w1, if_true]
          obtain ⟨c1, s5, u1, u2, u3⟩ := (ih2 K (D + 1) _ rest w2 (by omega) (by omega)).2.2.1 rfl hn (by unfold Fs; omega) s0 rfl ⟨0, (nowP (skipP s2)).f3, bs [], [], [], []⟩ (by simp only [zS, zEs, zSs])
          rw [u1]
          rcases u3 with ⟨a5, b5, c5, z5⟩ | ⟨a5, b5⟩
          · refine .fine ⟨b5, c5, by show s5.deep - 1 = D; omega⟩ (by omega) ?_
            rw [zS, zEs, zEs, zSs_map, zSs, zSs, z2, z, z5, hst.2.2.1]
          · exact .deepF b5 (by show s5.deep - 1 = D; omega) (by omega)
        · obtain ⟨w1, w2, w3⟩ := g4.down_not (by omega)
          simp only [w1, Bool.false_eq_true, if_false]
          exact .deepF w2 w3 (by omega)
      · simp only [bad_take (bad_13 b2), Bool.false_eq_true, if_false]
        exact .deepF b2 r2 (by omega)
    · rw [bad_block (bad_13 b1)]
      simp only [bad_take (bad_13 b1), Bool.false_eq_true, if_false]
      exact .deepF b1 q2 (by omega)
  | nil =>
    intro K D s rest h h0 h1
    refine ⟨fun e => (by cases e), fun e => (by cases e), fun e => (by cases e), fun _ hn hK K' hK' => ?_⟩
    exact .inr ⟨by omega, [], s, K', h, rfl, hK', rfl⟩
  | @cons d d' l x ts ts' hg hg' ih ih' =>
    intro K D s rest h h0 h1
    refine ⟨fun e => (by cases e), fun e => (by cases e), fun e => (by cases e), fun _ hn hK K' hK' => ?_⟩
    have h : At s (ts ++ (ts' ++ rest)) D := by simpa using h
    obtain ⟨t, r, rfl, f1, f2⟩ := hg'.first rfl
    have hx := (ih K D s _ h h0 h1).2.2.2 rfl ⟨_, _, rfl, f1⟩ hK K' hK'
    rcases hx with ⟨a, l', s', q1, q2, q3⟩ | ⟨a, l', s', K2, q1, q2, q3, q4⟩
    · exact .inl ⟨by omega, l', s', q1, q2, q3⟩
    · obtain ⟨K2, rfl⟩ : ∃ k, K2 = k + 1 := ⟨K2 - 1, by omega⟩
      obtain ⟨x', s2, r1, r2, r3⟩ := (ih' K D s' rest q1 h0 h1).1 rfl hn hK x rfl
      have hst : stmtsP (fnsF K) (K2 + 1) l' s' = stmtsP (fnsF K) K2 (l' ++ [x']) s2 := by
        rw [stmtsP, q1.good, q1.is, f2, if_pos (by decide), r1]
      have e2 : s'.ts.length = (t :: r ++ rest).length := by rw [← q1.toks, List.length_map]
      rw [List.length_append, List.length_cons] at e2
      rw [SsOut, q4, hst]
      rcases r3 with ⟨a2, b, c, z⟩ | ⟨a2, b⟩
      · have e1 : s2.ts.length = rest.length := by rw [← c, List.length_map]
        exact .inr ⟨by omega, l' ++ [x'], s2, K2, ⟨b, c, r2⟩, by rw [List.map_append, q2, List.map_cons, List.map_nil, z], by omega, rfl⟩
      · obtain ⟨K2, rfl⟩ : ∃ k, K2 = k + 1 := ⟨K2 - 1, by omega⟩
        exact .inl ⟨by omega, l' ++ [x'], s2, bad_stmts (bad_13 b) _ _ _, b, r2⟩
end Go.Proofs.YtenkganofobioaaDoor.B
