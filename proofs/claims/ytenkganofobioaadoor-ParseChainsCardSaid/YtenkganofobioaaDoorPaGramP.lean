/- Parsing, in plain Lean: which tokens make a program; which text has which tokens. -/
import Derived.Test.YtenkganofobioaaDoorPaGramS
namespace Go.Proofs.YtenkganofobioaaDoor.B
open Go.RowKit Go.Proofs.YtenkganofobioaaDoor.Mine Go.Proofs.YtenkganofobioaaDoor.Sep Go.Proofs.YtenkganofobioaaDoorW.PrintWords Go.Proofs.YtenkganofobioaaDoorW.PrintLast Go.Proofs.YtenkganofobioaaDoorW.PrintMore
set_option linter.unusedVariables false
set_option linter.unusedSimpArgs false
def zG : GB → GB | ⟨n, h, s, _⟩ => ⟨n, h, s, P0⟩
def zF : FU → FU | ⟨n, ps, b, _⟩ => ⟨n, ps, b.map zS, P0⟩
/-- Names with commas between; the first one: without. -/
def parR : Bool → List (List UInt8) → List Tk
  | _, [] => []
  | true, n :: r => nmT n :: parR false r
  | false, n :: r => mkT [44] :: nmT n :: parR false r
def holdW : Nat → List UInt8
  | 0 => [118, 97, 114]
  | 1 => [112, 117, 98, 108, 105, 99]
  | _ => [115, 101, 99, 114, 101, 116]
/-- Which tokens make a program, and how deep. -/
inductive GP : Nat → List GB → List FU → List Tk → Prop
  | nil : GP 0 [] [] []
  | word {d gs fs ts} (k : Nat) (n : List UInt8) : k < 3 → GP d gs fs ts → GP d (gs ++ [⟨bs n, (k : Int), 0, P0⟩]) fs (ts ++ [wdT (holdW k), nmT n, mkT [59]])
  | arr {d gs fs ts} (k : Nat) (n t : List UInt8) (v : Int) : k < 3 → 1 ≤ v → v ≤ 4096 → GP d gs fs ts → GP d (gs ++ [⟨bs n, (k : Int), v, P0⟩]) fs (ts ++ [wdT (holdW k), nmT n, mkT [91], (2, t, v), mkT [93], mkT [59]])
  | fn {d d' gs fs ts b tb} (n : List UInt8) (ps : List (List UInt8)) : GP d gs fs ts → H 1 d' b tb → GP (max d d') gs (fs ++ [⟨bs n, ps.map bs, b, P0⟩]) (ts ++ wdT [102, 117, 110, 99] :: nmT n :: mkT [40] :: (parR true ps ++ mkT [41] :: tb))
theorem emp_snoc (l : List ByteArray) (x : ByteArray) : (l ++ [x]).isEmpty = false := by cases l <;> rfl
theorem names_out : ∀ (ns : List (List UInt8)) (l : List ByteArray) (K : Nat) (s : PS) (rest : List Tk) (D : Int), At s (parR l.isEmpty ns ++ mkT [41] :: rest) D → s.ts.length < K → ∃ s', namesP K l s = some (l ++ ns.map bs, s') ∧ At s' (mkT [41] :: rest) D
  | [], l, K, s, rest, D, h, hK => by
    obtain ⟨K, rfl⟩ : ∃ k, K = k + 1 := ⟨K - 1, by omega⟩
    have h : At s (mkT [41] :: rest) D := by
      cases hl : l.isEmpty <;> rw [hl] at h <;> simpa [parR] using h
    refine ⟨s, ?_, h⟩
    rw [namesP, h.good, h.is, show headT_ [41] (mkT [41]) = true from by decide]
    simp
  | n :: r, l, K, s, rest, D, h, hK => by
    obtain ⟨K, rfl⟩ : ∃ k, K = k + 1 := ⟨K - 1, by omega⟩
    cases hl : l.isEmpty with
    | true =>
      rw [hl] at h
      have h : At s (nmT n :: (parR false r ++ mkT [41] :: rest)) D := h
      have hlen : ¬ 0 < l.length := by simpa using hl
      have h2 := h.skip (by simp)
      have e2 : s.ts.length = (nmT n :: (parR false r ++ mkT [41] :: rest)).length := by rw [← h.toks, List.length_map]
      have e3 : (skipP s).ts.length = (parR false r ++ mkT [41] :: rest).length := by rw [← h2.toks, List.length_map]
      rw [List.length_cons] at e2
      obtain ⟨s', q1, q2⟩ := names_out r (l ++ [bs n]) K (skipP s) rest D (by rw [emp_snoc]; exact h2) (by omega)
      refine ⟨s', ?_, q2⟩
      rw [namesP, h.good, h.is, headT_name n [41], if_pos (by decide)]
      simp only [if_neg hlen, h.name, q1]
      simp
    | false =>
      rw [hl] at h
      have h : At s (mkT [44] :: nmT n :: (parR false r ++ mkT [41] :: rest)) D := h
      have hlen : 0 < l.length := by
        cases l with
        | nil => cases hl
        | cons a b => simp
      have h1 := h.skip (by decide)
      have h2 := h1.skip (by simp)
      have e2 : s.ts.length = (mkT [44] :: nmT n :: (parR false r ++ mkT [41] :: rest)).length := by rw [← h.toks, List.length_map]
      have e3 : (skipP (skipP s)).ts.length = (parR false r ++ mkT [41] :: rest).length := by rw [← h2.toks, List.length_map]
      rw [List.length_cons, List.length_cons] at e2
      obtain ⟨s', q1, q2⟩ := names_out r (l ++ [bs n]) K (skipP (skipP s)) rest D (by rw [emp_snoc]; exact h2) (by omega)
      refine ⟨s', ?_, q2⟩
      rw [namesP, h.good, h.is, show headT_ [41] (mkT [44]) = false from by decide, if_pos (by decide)]
      simp only [if_pos hlen, h.want (x := [44]) (by decide), h1.name, q1]
      simp
theorem global_word {s : PS} {n : List UInt8} {rest : List Tk} {D : Int} (kind : Int) (h : At s (nmT n :: mkT [59] :: rest) D) : ∃ g s', globalP kind s = (g, s') ∧ zG g = ⟨bs n, kind, 0, P0⟩ ∧ At s' rest D := by
  have h2 := h.skip (by simp)
  unfold globalP
  simp only [h.name, h2.take_no (x := [91]) (by decide), Bool.false_eq_true, if_false, h2.want (x := [59]) (by decide)]
  exact ⟨_, _, rfl, rfl, h2.skip (by decide)⟩
theorem global_arr {s : PS} {n t : List UInt8} {v : Int} {rest : List Tk} {D : Int} (kind : Int) (h1 : 1 ≤ v) (h4 : v ≤ 4096) (h : At s (nmT n :: mkT [91] :: (2, t, v) :: mkT [93] :: mkT [59] :: rest) D) : ∃ g s', globalP kind s = (g, s') ∧ zG g = ⟨bs n, kind, v, P0⟩ ∧ At s' rest D := by
  have h2 := h.skip (by simp)
  have h3 := h2.skip (by decide)
  have h5 := h3.skip (by simp)
  have h6 := h5.skip (by decide)
  have hv : (nowP (skipP (skipP s))).f2 = v := congrArg (fun x => x.2.2) h3.now
  have c1 : decide (v < 1) = false := decide_eq_false (by omega)
  have c2 : decide (4096 < v) = false := decide_eq_false (by omega)
  unfold globalP
  simp only [h.name, h2.take_yes (x := [91]) (by decide), if_true, h3.good, Bool.false_eq_true, if_false, h3.kind, bne_self_eq_false, hv, c1, c2, Bool.or_self, h5.want (x := [93]) (by decide), h6.want (x := [59]) (by decide)]
  exact ⟨_, _, rfl, rfl, h6.skip (by decide)⟩
/-- A program's parts so far. -/
def POut (F : Fns) (K : Nat) (gs : List GB) (fs : List FU) (s : PS) (rest : List Tk) (d : Nat) : Prop :=
  (200 < d ∧ ∃ r, progQ F K [] [] s = some r ∧ r.2.2.e = 13) ∨
  (d ≤ 200 ∧ ∃ gs' fs' s' K', At s' rest 0 ∧ gs'.map zG = gs ∧ fs'.map zF = fs ∧ s'.ts.length < K' ∧ progQ F K [] [] s = progQ F K' gs' fs' s')
theorem hold_head : ∀ k : Nat, k < 3 → (headT_ [118, 97, 114] (wdT (holdW k)) = decide (k = 0)) ∧ (headT_ [112, 117, 98, 108, 105, 99] (wdT (holdW k)) = decide (k = 1)) ∧ (headT_ [115, 101, 99, 114, 101, 116] (wdT (holdW k)) = decide (k = 2)) := by decide
/-- What stands behind one of the three words. -/
theorem item_global {F : Fns} {s : PS} {k : Nat} (hk : k < 3) {r : List Tk} {D : Int} (h : At s (wdT (holdW k) :: r) D) {g : GB} {s' : PS} (hg : globalP (k : Int) (skipP s) = (g, s')) : itemP F s = some ([g], [], s') := by
  obtain ⟨h0, h1, h2⟩ := hold_head k hk
  unfold itemP
  match k, hk with
  | 0, _ =>
    rw [h.take_yes h0]
    simp only [if_true]
    rw [show (0 : Int) = ((0 : Nat) : Int) from rfl, hg]
  | 1, _ =>
    rw [h.take_no h0, h.take_yes h1]
    simp only [Bool.false_eq_true, if_false, if_true]
    rw [show (1 : Int) = ((1 : Nat) : Int) from rfl, hg]
  | 2, _ =>
    rw [h.take_no h0, h.take_no h1, h.take_yes h2]
    simp only [Bool.false_eq_true, if_false, if_true]
    rw [show (2 : Int) = ((2 : Nat) : Int) from rfl, hg]
theorem progQ_bad {F : Fns} {s : PS} (h : badP s = true) (k : Nat) (gs : List GB) (fs : List FU) : progQ F (k + 1) gs fs s = some (gs, fs, s) := by rw [progQ, h]; rfl
theorem progQ_step {F : Fns} {s : PS} {t : Tk} {r : List Tk} {D : Int} (h : At s (t :: r) D) (h0 : t.1 ≠ 0) {g : List GB} {f : List FU} {s' : PS} (hi : itemP F s = some (g, f, s')) (k : Nat) (gs : List GB) (fs : List FU) : progQ F (k + 1) gs fs s = progQ F k (gs ++ g) (fs ++ f) s' := by
  have h1 : ((nowP s).f0 != 0) = true := by rw [h.kind]; exact bne_iff_ne.2 h0
  rw [progQ, h.good, h1, if_pos (by decide), hi]
set_option maxHeartbeats 2000000 in
theorem GP.out {fuel d : Nat} (hfu : 900 ≤ fuel) {gs : List GB} {fs : List FU} {ts : List Tk} (hg : GP d gs fs ts) : ∀ (K : Nat) (s : PS) (rest : List Tk), At s (ts ++ rest) 0 → s.ts.length < K → POut (fnsF fuel) K gs fs s rest d := by
  induction hg with
  | nil => intro K s rest h hK; exact .inr ⟨by decide, [], [], s, K, h, rfl, rfl, hK, rfl⟩
  | @word d gs fs ts k n hk hg ih =>
    intro K s rest h hK
    have h : At s (ts ++ (wdT (holdW k) :: nmT n :: mkT [59] :: rest)) 0 := by simpa using h
    rcases ih K s _ h hK with ⟨a, q⟩ | ⟨a, gs', fs', s', K', q1, q2, q3, q4, q5⟩
    · exact .inl ⟨a, q⟩
    · obtain ⟨g, s2, r1, r2, r3⟩ := global_word (k : Int) (q1.skip (by simp))
      obtain ⟨K', rfl⟩ : ∃ k, K' = k + 1 := ⟨K' - 1, by omega⟩
      have e1 : s'.ts.length = (wdT (holdW k) :: nmT n :: mkT [59] :: rest).length := by rw [← q1.toks, List.length_map]
      have e2 : s2.ts.length = rest.length := by rw [← r3.toks, List.length_map]
      simp only [List.length_cons] at e1
      refine .inr ⟨a, gs' ++ [g], fs' ++ [], s2, K', r3, ?_, ?_, by omega, ?_⟩
      · rw [List.map_append, q2]; exact congrArg (fun x => gs ++ [x]) r2
      · rw [List.append_nil, q3]
      · rw [q5, progQ_step q1 (by simp) (item_global hk q1 r1)]
  | @arr d gs fs ts k n t v hk hv1 hv4 hg ih =>
    intro K s rest h hK
    have h : At s (ts ++ (wdT (holdW k) :: nmT n :: mkT [91] :: (2, t, v) :: mkT [93] :: mkT [59] :: rest)) 0 := by simpa using h
    rcases ih K s _ h hK with ⟨a, q⟩ | ⟨a, gs', fs', s', K', q1, q2, q3, q4, q5⟩
    · exact .inl ⟨a, q⟩
    · obtain ⟨g, s2, r1, r2, r3⟩ := global_arr (k : Int) hv1 hv4 (q1.skip (by simp))
      obtain ⟨K', rfl⟩ : ∃ k, K' = k + 1 := ⟨K' - 1, by omega⟩
      have e1 : s'.ts.length = (wdT (holdW k) :: nmT n :: mkT [91] :: (2, t, v) :: mkT [93] :: mkT [59] :: rest).length := by rw [← q1.toks, List.length_map]
      have e2 : s2.ts.length = rest.length := by rw [← r3.toks, List.length_map]
      simp only [List.length_cons] at e1
      refine .inr ⟨a, gs' ++ [g], fs' ++ [], s2, K', r3, ?_, ?_, by omega, ?_⟩
      · rw [List.map_append, q2]; exact congrArg (fun x => gs ++ [x]) r2
      · rw [List.append_nil, q3]
      · rw [q5, progQ_step q1 (by simp) (item_global hk q1 r1)]
  | @fn d d' gs fs ts b tb n ps hg hb ih =>
    intro K s rest h hK
    have h : At s (ts ++ (wdT [102, 117, 110, 99] :: nmT n :: mkT [40] :: (parR true ps ++ mkT [41] :: (tb ++ rest)))) 0 := by simpa using h
    rcases ih K s _ h hK with ⟨a, q⟩ | ⟨a, gs', fs', s', K', q1, q2, q3, q4, q5⟩
    · exact .inl ⟨by omega, q⟩
    · obtain ⟨K', rfl⟩ : ∃ k, K' = k + 1 := ⟨K' - 1, by omega⟩
      have h1 := q1.skip (by decide)
      have h2 := h1.skip (by simp)
      have h3 := h2.skip (by decide)
      obtain ⟨s4, g1, g2⟩ := names_out ps [] ((skipP (skipP (skipP s'))).ts.length + 2) _ _ 0 h3 (by omega)
      have h5 := g2.skip (by decide)
      obtain ⟨fuel, rfl⟩ : ∃ k, fuel = k + 1 := ⟨fuel - 1, by omega⟩
      obtain ⟨b', s6, u1, u2, u3⟩ := (hb.mot fuel 0 _ rest h5 (by decide) (by decide)).2.1 rfl (by unfold Fs; omega)
      have hf : functionP (fnsF (fuel + 1)) (skipP s') = some (⟨bs n, ps.map bs, b', (nowP (skipP s')).f3⟩, s6) := by
        unfold functionP
        simp only [h1.name, h2.want (x := [40]) (by decide), g1, g2.want (x := [41]) (by decide)]
        rw [show (fnsF (fuel + 1)).block (skipP s4) = blockP (fnsF fuel) (skipP s4) from rfl, u1]
        rfl
      have hi : itemP (fnsF (fuel + 1)) s' = some ([], [⟨bs n, ps.map bs, b', (nowP (skipP s')).f3⟩], s6) := by
        unfold itemP
        simp only [q1.take_no (x := [118, 97, 114]) (by decide), q1.take_no (x := [112, 117, 98, 108, 105, 99]) (by decide), q1.take_no (x := [115, 101, 99, 114, 101, 116]) (by decide), q1.take_yes (x := [102, 117, 110, 99]) (by decide), Bool.false_eq_true, if_false, if_true, hf]
      have hst := progQ_step q1 (by decide) hi K' gs' fs'
      have e1 : s'.ts.length = (wdT [102, 117, 110, 99] :: nmT n :: mkT [40] :: (parR true ps ++ mkT [41] :: (tb ++ rest))).length := by rw [← q1.toks, List.length_map]
      simp only [List.length_cons, List.length_append] at e1
      rcases u3 with ⟨a2, b2, c2, z2⟩ | ⟨a2, b2⟩
      · have e2 : s6.ts.length = rest.length := by rw [← c2, List.length_map]
        refine .inr ⟨by omega, gs' ++ [], fs' ++ [⟨bs n, ps.map bs, b', (nowP (skipP s')).f3⟩], s6, K', ⟨b2, c2, u2⟩, by rw [List.append_nil, q2], ?_, by omega, by rw [q5, hst]⟩
        rw [List.map_append, q3]
        show fs ++ [(⟨bs n, ps.map bs, b'.map zS, P0⟩ : FU)] = _
        rw [z2]
      · obtain ⟨K', rfl⟩ : ∃ k, K' = k + 1 := ⟨K' - 1, by omega⟩
        exact .inl ⟨by omega, (gs' ++ [], fs' ++ [⟨bs n, ps.map bs, b', (nowP (skipP s')).f3⟩], s6), by rw [q5, hst]; exact progQ_bad (bad_13 b2) _ _ _, b2⟩
/-- A text's tokens, without their places; the end among them. -/
def LexTo (r : List UInt8) (tk : List Tk) : Prop := ∀ (k : Nat) (l c : Int), r.length < k → ∃ ts, allP k r l c = some (.inl ts) ∧ ts.map er = tk
/-- A text whose tokens make a program is that program; or it is too deep. -/
theorem parse_of {txt : List UInt8} {d : Nat} {gs : List GB} {fs : List FU} {tk : List Tk} {fuel : Nat} (hfu : 900 ≤ fuel) (hl : txt.length ≤ 65536) (hx : LexTo txt (tk ++ [(0, [], 0)])) (hg : GP d gs fs tk) :
    (200 < d ∧ ∃ l c, parseQ fuel txt = some (.fault 13 l c)) ∨ (d ≤ 200 ∧ ∃ gs' fs', parseQ fuel txt = some (.prog gs' fs') ∧ gs'.map zG = gs ∧ fs'.map zF = fs) := by
  obtain ⟨ts, h1, h2⟩ := hx (txt.length + 1) 1 1 (by omega)
  have h : At (⟨ts, 0, 0, 0, 0⟩ : PS) (tk ++ [(0, [], 0)]) 0 := ⟨rfl, h2, rfl⟩
  unfold parseQ
  rw [if_neg (by omega), h1]
  rcases hg.out hfu (ts.length + 2) _ _ h (by show ts.length < _; omega) with ⟨a, ⟨gs', fs', s'⟩, q1, q2⟩ | ⟨a, gs', fs', s', K', q1, q2, q3, q4, q5⟩
  · refine .inl ⟨a, s'.l, s'.c, ?_⟩
    simp only [q1, show badP s' = true from bad_13 q2, if_true, show s'.e = 13 from q2]
  · obtain ⟨K', rfl⟩ : ∃ k, K' = k + 1 := ⟨K' - 1, by omega⟩
    refine .inr ⟨a, gs', fs', ?_, q2, q3⟩
    have h1 : ((nowP s').f0 != 0) = false := by rw [q1.kind]; rfl
    have : progQ (fnsF fuel) (K' + 1) gs' fs' s' = some (gs', fs', s') := by
      rw [progQ, q1.good, h1]
      rfl
    simp only [q5, this, q1.good, Bool.false_eq_true, if_false]
theorem lex_nil : LexTo [] [(0, [], 0)] := by
  intro k l c hk
  obtain ⟨k, rfl⟩ : ∃ j, k = j + 1 := ⟨k - 1, by omega⟩
  exact ⟨[⟨0, bs [], 0, ⟨l, c⟩⟩], by rw [allP]; rfl, rfl⟩
theorem nxt_shift (r1 : List UInt8) (l c : Int) (n : Nat) : nxtP r1 l c (1 + n) = match nxtP r1 l c n with | .tok t u => .tok t (1 + u) | .err e u => .err e (1 + u) := by
  unfold nxtP
  split
  · rfl
  · split
    · simp only [Nat.add_assoc]
    · split
      · split <;> simp_all [Nat.add_assoc]
      · split
        · rfl
        · simp only [Nat.add_assoc]
theorem lex_blank {x : UInt8} {r : List UInt8} {tk : List Tk} (hx : isB x = true) (h : LexTo r tk) : LexTo (x :: r) tk := by
  intro k l c hk
  rw [List.length_cons] at hk
  obtain ⟨k, rfl⟩ : ∃ j, k = j + 1 := ⟨k - 1, by omega⟩
  obtain ⟨ts, h1, h2⟩ := h (k + 1) (posA l c [x]).1 (posA l c [x]).2 (by omega)
  refine ⟨ts, ?_, h2⟩
  rw [← h1]
  have hp : ∀ u : List UInt8, posA l c (x :: u) = posA (posA l c [x]).1 (posA l c [x]).2 u := fun u => posA_app l c [x] u
  have hb : blkN false (x :: r) = 1 + blkN false r := by rw [blkN, if_pos hx]
  have hn : nextP (x :: r) l c = match nextP r (posA l c [x]).1 (posA l c [x]).2 with | .tok t u => .tok t (1 + u) | .err e u => .err e (1 + u) := by
    unfold nextP
    rw [hb, Nat.add_comm 1 (blkN false r), List.drop_succ_cons, List.take_succ_cons, hp, Nat.add_comm (blkN false r) 1]
    exact nxt_shift _ _ _ _
  rw [allP, allP, hn]
  cases nextP r (posA l c [x]).1 (posA l c [x]).2 with
  | err e u =>
    show some (Sum.inr (e, posA l c ((x :: r).take (1 + u)))) = some (Sum.inr (e, posA (posA l c [x]).1 (posA l c [x]).2 (r.take u)))
    rw [Nat.add_comm 1 u, List.take_succ_cons, hp]
  | tok t u =>
    simp only
    rw [Nat.add_comm 1 u, List.take_succ_cons, List.drop_succ_cons, hp]
/-- A token ahead. -/
theorem lex_tok {r : List UInt8} {T : Tk} {n : Nat} {tk : List Tk} (h0 : T.1 ≠ 0) (hn : 0 < n) (hr : n ≤ r.length) (ht : ∀ l c, ∃ t, nextP r l c = .tok t n ∧ er t = T) (h : LexTo (r.drop n) tk) : LexTo r (T :: tk) := by
  intro k l c hk
  obtain ⟨k, rfl⟩ : ∃ j, k = j + 1 := ⟨k - 1, by omega⟩
  obtain ⟨t, h1, h2⟩ := ht l c
  obtain ⟨ts, h3, h4⟩ := h k (posA l c (r.take n)).1 (posA l c (r.take n)).2 (by rw [List.length_drop]; omega)
  refine ⟨t :: ts, ?_, by rw [List.map_cons, h4, h2]⟩
  have e0 : t.f0 ≠ 0 := by
    have : t.f0 = T.1 := congrArg (fun x => x.1) h2
    rw [this]; exact h0
  rw [allP_succ, h1]
  simp only [if_neg e0, h3]
  rfl
theorem isL_apart {x : UInt8} (h : isL x = true) : isB x = false ∧ x ≠ 47 := by
  constructor
  · cases hb : isB x with
    | false => rfl
    | true =>
      exfalso
      unfold isB at hb
      simp only [Bool.or_eq_true, beq_iff_eq] at hb
      rcases hb with rfl | rfl | rfl | rfl <;> revert h <;> decide
  · rintro rfl
    revert h; decide
theorem isD_apart {x : UInt8} (h : isD x = true) : isB x = false ∧ x ≠ 47 ∧ isL x = false := by
  refine ⟨?_, ?_, ?_⟩
  · cases hb : isB x with
    | false => rfl
    | true =>
      exfalso
      unfold isB at hb
      simp only [Bool.or_eq_true, beq_iff_eq] at hb
      rcases hb with rfl | rfl | rfl | rfl <;> revert h <;> decide
  · rintro rfl
    revert h; decide
  · unfold isD at h
    unfold isL
    simp only [Bool.and_eq_true, decide_eq_true_eq] at h
    have h2 : (x == 95) = false := by
      rw [beq_eq_false_iff_ne]
      rintro rfl
      revert h; decide
    rw [h2, decide_eq_false (by omega : ¬ 97 ≤ x.toNat), decide_eq_false (by omega : ¬ 65 ≤ x.toNat)]
    rfl
theorem run_app (nm : Bool) (w : List UInt8) (hw : ∀ x ∈ w, (isD x || (nm && isL x)) = true) (r : List UInt8) (hr : ∀ y ∈ r.head?, (isD y || (nm && isL y)) = false) : runN nm (w ++ r) = w.length := by
  induction w with
  | nil =>
    cases r with
    | nil => rfl
    | cons y r => rw [List.nil_append, runN, hr y rfl]; rfl
  | cons x w ih =>
    rw [List.cons_append, runN, hw x (List.mem_cons_self ..), if_pos rfl, ih (fun y hy => hw y (List.mem_cons_of_mem _ hy)), List.length_cons]
    omega
theorem blk_zero {x : UInt8} (h1 : isB x = false) (h2 : x ≠ 47) (r : List UInt8) : blkN false (x :: r) = 0 := by
  rw [blkN, if_neg (by rw [h1]; decide), if_neg (fun h => h2 h.1)]
theorem next_zero {x : UInt8} {r : List UInt8} (h : blkN false (x :: r) = 0) (l c : Int) : nextP (x :: r) l c = nxtP (x :: r) l c 0 := by
  unfold nextP
  rw [h]
  rfl
/-- A name, or a word. -/
theorem lex_name {x : UInt8} {w r : List UInt8} {tk : List Tk} (hx : isL x = true) (hw : ∀ y ∈ w, (isD y || isL y) = true) (hr : ∀ y ∈ r.head?, (isD y || isL y) = false) (h : LexTo r tk) : LexTo (x :: w ++ r) ((if wordList.contains (x :: w) then 3 else 1, x :: w, 0) :: tk) := by
  have hrun : runN true (x :: w ++ r) = (x :: w).length := run_app true (x :: w) (fun y hy => by
    rcases List.mem_cons.1 hy with rfl | hy
    · rw [hx]; simp
    · simpa using hw y hy) r (fun y hy => by simpa using hr y hy)
  have hz := isL_apart hx
  refine lex_tok (n := (x :: w).length) ?_ (by simp) (by simp) (fun l c => ?_) ?_
  · show (if wordList.contains (x :: w) then (3 : Int) else 1) ≠ 0
    split <;> decide
  · refine ⟨⟨if wordList.contains (x :: w) then 3 else 1, bs (x :: w), 0, ⟨l, c⟩⟩, ?_, rfl⟩
    rw [List.cons_append, next_zero (blk_zero hz.1 hz.2 _)]
    unfold nxtP
    simp only [hx, if_true]
    rw [← List.cons_append, hrun, List.take_left, Nat.zero_add]
  · rw [List.drop_left]; exact h
/-- A number. -/
theorem lex_num {x : UInt8} {w r : List UInt8} {v : Int} {tk : List Tk} (hx : isD x = true) (hw : ∀ y ∈ w, isD y = true) (hr : ∀ y ∈ r.head?, isD y = false) (hv : valP 0 (x :: w) = some v) (h : LexTo r tk) : LexTo (x :: w ++ r) ((2, x :: w, v) :: tk) := by
  have hrun : runN false (x :: w ++ r) = (x :: w).length := run_app false (x :: w) (fun y hy => by
    rcases List.mem_cons.1 hy with rfl | hy
    · rw [hx]; rfl
    · simpa using hw y hy) r (fun y hy => by simpa using hr y hy)
  have hz := isD_apart hx
  refine lex_tok (n := (x :: w).length) (by decide : (2 : Int) ≠ 0) (by simp) (by simp) (fun l c => ?_) ?_
  · refine ⟨⟨2, bs (x :: w), v, ⟨l, c⟩⟩, ?_, rfl⟩
    rw [List.cons_append, next_zero (blk_zero hz.1 hz.2.1 _)]
    unfold nxtP
    simp only [hz.2.2, hx, if_true, Bool.false_eq_true, if_false]
    rw [← List.cons_append, hrun, List.take_left, hv]
    simp only [Nat.zero_add]
  · rw [List.drop_left]; exact h
/-- A mark. -/
theorem lex_mark {x : UInt8} {w r : List UInt8} {tk : List Tk} (h1 : isB x = false) (h2 : isL x = false) (h3 : isD x = false) (h4 : x = 47 → (w ++ r).head? ≠ some 47) (hm : markP (x :: w ++ r) = x :: w) (h : LexTo r tk) : LexTo (x :: w ++ r) (mkT (x :: w) :: tk) := by
  have hz : blkN false (x :: (w ++ r)) = 0 := by
    rw [blkN, if_neg (by rw [h1]; decide), if_neg (fun hh => h4 hh.1 hh.2)]
  refine lex_tok (n := (x :: w).length) (by simp) (by simp) (by simp) (fun l c => ?_) ?_
  · refine ⟨⟨4, bs (x :: w), 0, ⟨l, c⟩⟩, ?_, rfl⟩
    rw [List.cons_append, next_zero hz]
    unfold nxtP
    rw [List.cons_append] at hm
    simp only [h2, h3, Bool.false_eq_true, if_false, hm, Nat.zero_add]
    rfl
  · rw [List.drop_left]; exact h
end Go.Proofs.YtenkganofobioaaDoor.B
