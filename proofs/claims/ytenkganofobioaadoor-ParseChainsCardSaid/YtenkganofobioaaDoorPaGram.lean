/- Parsing, in plain Lean: which tokens make which expression, and how deep; the parser finds it. -/
import Derived.Test.YtenkganofobioaaDoorPaProg
namespace Go.Proofs.YtenkganofobioaaDoor.B
open Go.RowKit Go.Proofs.YtenkganofobioaaDoor.Mine Go.Proofs.YtenkganofobioaaDoor.Sep Go.Proofs.YtenkganofobioaaDoorW.PrintWords Go.Proofs.YtenkganofobioaaDoorW.PrintLast Go.Proofs.YtenkganofobioaaDoorW.PrintMore
set_option linter.unusedVariables false
set_option linter.unusedSimpArgs false
/-- A token without its place. -/
abbrev Tk := Int × List UInt8 × Int
def er (t : TK) : Tk := (t.f0, t.f1.data.toList, t.f2)
abbrev mkT (m : List UInt8) : Tk := (4, m, 0)
abbrev wdT (m : List UInt8) : Tk := (3, m, 0)
abbrev nmT (m : List UInt8) : Tk := (1, m, 0)
abbrev P0 : S32 := ⟨0, 0⟩
mutual
/-- An expression without places. -/
def zE : EX → EX
  | ⟨a, _, b, c, d, l⟩ => ⟨a, P0, b, c, d, zEs l⟩
def zEs : List EX → List EX
  | [] => []
  | x :: r => zE x :: zEs r
end
theorem zEs_map : ∀ l : List EX, zEs l = l.map zE
  | [] => by rw [zEs]; rfl
  | x :: r => by rw [zEs, zEs_map r]; rfl
def headT_ (x : List UInt8) (t : Tk) : Bool := (t.1 == 3 || t.1 == 4) && t.2.1 == x
/-- A parser without fault, its tokens, how deep. -/
structure At (s : PS) (ts : List Tk) (d : Int) : Prop where
  ok : s.e = 0
  toks : s.ts.map er = ts
  deep : s.deep = d
theorem At.good {s : PS} {ts : List Tk} {d : Int} (h : At s ts d) : badP s = false := by unfold badP; rw [h.ok]; rfl
theorem At.now {s : PS} {t : Tk} {r : List Tk} {d : Int} (h : At s (t :: r) d) : er (nowP s) = t := by
  have e := h.toks
  unfold nowP
  cases hs : s.ts with
  | nil => rw [hs] at e; cases e
  | cons a b =>
    rw [hs, List.map_cons] at e
    injection e
theorem At.is {s : PS} {t : Tk} {r : List Tk} {d : Int} (h : At s (t :: r) d) (x : List UInt8) : isP s (bs x) = headT_ x t := by
  have e := h.now
  unfold isP headT_
  rw [← e]
  rfl
theorem At.kind {s : PS} {t : Tk} {r : List Tk} {d : Int} (h : At s (t :: r) d) : (nowP s).f0 = t.1 := by rw [← h.now]; rfl
theorem At.skip {s : PS} {t : Tk} {r : List Tk} {d : Int} (h : At s (t :: r) d) (h0 : t.1 ≠ 0) : At (skipP s) r d := by
  unfold skipP
  rw [if_neg (by rw [h.kind]; exact h0)]
  refine ⟨h.ok, ?_, h.deep⟩
  have e := h.toks
  show s.ts.tail.map er = r
  cases hs : s.ts with
  | nil => rw [hs] at e; cases e
  | cons a b =>
    rw [hs, List.map_cons] at e
    injection e
theorem At.take_yes {s : PS} {t : Tk} {r : List Tk} {d : Int} (h : At s (t :: r) d) {x : List UInt8} (hx : headT_ x t = true) : takeP s (bs x) = (true, skipP s) := by
  unfold takeP
  rw [h.good, h.is, hx]
  rfl
theorem At.take_no {s : PS} {t : Tk} {r : List Tk} {d : Int} (h : At s (t :: r) d) {x : List UInt8} (hx : headT_ x t = false) : takeP s (bs x) = (false, s) := by
  unfold takeP
  rw [h.is, hx, Bool.not_false, Bool.or_true, if_pos rfl]
theorem At.want {s : PS} {t : Tk} {r : List Tk} {d : Int} (h : At s (t :: r) d) {x : List UInt8} (hx : headT_ x t = true) : wantP s (bs x) = skipP s := by
  unfold wantP
  rw [h.take_yes hx, if_pos rfl]
theorem head_kind {x : List UInt8} {t : Tk} (h : headT_ x t = true) : t.1 ≠ 0 := by
  intro e
  unfold headT_ at h
  rw [e] at h
  simp at h
theorem bad_take {s : PS} (h : badP s = true) (x : ByteArray) : takeP s x = (false, s) := by unfold takeP; rw [h, Bool.true_or, if_pos rfl]
theorem bad_fail {s : PS} (h : badP s = true) (n : Int) : failP s n = s := by
  unfold failP
  rw [if_neg (bne_iff_ne.1 h)]
theorem bad_want {s : PS} (h : badP s = true) (x : ByteArray) : wantP s x = s := by
  unfold wantP
  rw [bad_take h]
  exact bad_fail h 12
theorem bad_name {s : PS} (h : badP s = true) : nameP s = (bs [], s) := by
  unfold nameP
  rw [h, Bool.true_or, if_pos rfl, bad_fail h]
theorem bad_down {s : PS} (h : badP s = true) : downP s = (false, s) := by unfold downP; rw [h, if_pos rfl]
theorem bad_whole {s : PS} (h : badP s = true) (F : Fns) : wholeP F s = some (z51, s) := by unfold wholeP; rw [bad_down h]; rfl
theorem bad_unary {s : PS} (h : badP s = true) (F : Fns) : unaryP F s = some (z51, s) := by unfold unaryP; rw [h, if_pos rfl]
theorem bad_chain {s : PS} (h : badP s = true) (nx : PS → Option (EX × PS)) (lv k : Nat) (e : EX) : chainP nx lv (k + 1) e s = some (e, s) := by rw [chainP, h, if_pos rfl]
theorem bad_list {s : PS} (h : badP s = true) (nx : PS → Option (EX × PS)) (stop : List UInt8) (k : Nat) (l : List EX) : listP nx stop (k + 1) l s = some (l, s) := by rw [listP, h]; rfl
theorem bad_13 {s : PS} (h : s.e = 13) : badP s = true := by unfold badP; rw [h]; rfl
/-- What a part comes to: the expression and what is left; or too deep. -/
def Out (p : Option (EX × PS)) (e : EX) (deep : Int) (rest : List Tk) (d : Nat) : Prop :=
  ∃ e' s', p = some (e', s') ∧ s'.deep = deep ∧ ((deep + d ≤ 200 ∧ s'.e = 0 ∧ s'.ts.map er = rest ∧ zE e' = e) ∨ (200 < deep + d ∧ s'.e = 13))
/-- What stands behind is no mark of these levels, no bracket. -/
def noOp (n : Nat) (rest : List Tk) : Prop := ∃ t r, rest = t :: r ∧ (∀ lv, lv < 5 → 5 ≤ lv + n → ∀ m ∈ levelList.getD lv [], (t.1 == 4 && t.2.1 == m) = false) ∧ headT_ [91] t = false ∧ headT_ [40] t = false
theorem noOp.le {n m : Nat} {rest : List Tk} (h : noOp n rest) (hm : m ≤ n) : noOp m rest := by
  obtain ⟨t, r, e, h1, h2⟩ := h
  exact ⟨t, r, e, fun lv a b => h1 lv a (by omega), h2⟩
theorem At.mark {s : PS} {t : Tk} {r : List Tk} {d : Int} (h : At s (t :: r) d) (l : List (List UInt8)) : markOf s l = (l.find? fun m => t.1 == 4 && t.2.1 == m).getD [] := by
  have e := h.now
  unfold markOf
  rw [← e]
  rfl
theorem find_none {l : List (List UInt8)} {p : List UInt8 → Bool} (h : ∀ m ∈ l, p m = false) : l.find? p = none := by
  rw [List.find?_eq_none]
  intro x hx
  rw [h x hx]
  decide
theorem At.no_mark {s : PS} {rest : List Tk} {d : Int} {n : Nat} (h : At s rest d) (hn : noOp n rest) (lv : Nat) (h5 : lv < 5) (hl : 5 ≤ lv + n) : markOf s (levelList.getD lv []) = [] := by
  obtain ⟨t, r, rfl, h1, _⟩ := hn
  rw [h.mark, find_none (h1 lv h5 hl)]
  rfl
theorem find_self {l : List (List UInt8)} {m : List UInt8} (h : m ∈ l) : (l.find? fun x => (4 : Int) == 4 && m == x) = some m := by
  induction l with
  | nil => cases h
  | cons a l ih =>
    rw [List.find?_cons]
    by_cases ha : m = a
    · subst ha; simp
    · have : ((4 : Int) == 4 && m == a) = false := by simp [ha]
      rw [this]
      exact ih (by rcases List.mem_cons.1 h with e | e; exact absurd e ha; exact e)
theorem At.yes_mark {s : PS} {m : List UInt8} {r : List Tk} {d : Int} (h : At s (mkT m :: r) d) {l : List (List UInt8)} (hm : m ∈ l) : markOf s l = m := by
  rw [h.mark]
  show (l.find? fun x => (4 : Int) == 4 && m == x).getD [] = m
  rw [find_self hm]
  rfl
theorem zE_both (m : List UInt8) (p : S32) (a b : EX) : zE (bothP m p a b) = bothP m P0 (zE a) (zE b) := by
  unfold bothP
  split
  · simp only [zE, zEs]
  · split
    · simp only [zE, zEs]
    · split <;> simp only [zE, zEs, *, if_true, Bool.false_eq_true, if_false] <;> (split <;> simp_all [zEs])
/-- Which tokens make which expression: at a level (0: with signs or brackets; n + 1: with the marks of level 4 - n on), how deep. -/
inductive G : Nat → Nat → EX → List Tk → Prop
  | num (t : List UInt8) (v : Int) : G 0 0 ⟨1, P0, v, bs [], 0, []⟩ [(2, t, v)]
  | tru : G 0 0 ⟨2, P0, 1, bs [], 0, []⟩ [wdT [116, 114, 117, 101]]
  | fal : G 0 0 ⟨2, P0, 0, bs [], 0, []⟩ [wdT [102, 97, 108, 115, 101]]
  | var (n : List UInt8) : G 0 0 ⟨3, P0, 0, bs n, 0, []⟩ [nmT n]
  | par {d e ts} : G 5 d e ts → G 0 (d + 1) e (mkT [40] :: (ts ++ [mkT [41]]))
  | idx {d e ts} (n : List UInt8) : G 5 d e ts → G 0 (d + 1) ⟨4, P0, 0, bs n, 0, [e]⟩ (nmT n :: mkT [91] :: (ts ++ [mkT [93]]))
  | not {d e ts} : G 0 d e ts → G 0 (d + 1) ⟨9, P0, 0, bs [], 0, [e]⟩ (mkT [33] :: ts)
  | neg {d e ts} : G 0 d e ts → G 0 (d + 1) ⟨6, P0, 0, bs [], 2, [⟨1, P0, 0, bs [], 0, []⟩, e]⟩ (mkT [45] :: ts)
  | call0 (n : List UInt8) : G 0 0 ⟨5, P0, 0, bs n, 0, []⟩ [nmT n, mkT [40], mkT [41]]
  | call {d l ts} (n : List UInt8) : G 9 d ⟨5, P0, 0, bs n, 0, l⟩ ts → G 0 d ⟨5, P0, 0, bs n, 0, l⟩ (nmT n :: mkT [40] :: (ts ++ [mkT [41]]))
  | arg1 {d e ts} (n : List UInt8) : G 5 d e ts → G 9 (d + 1) ⟨5, P0, 0, bs n, 0, [e]⟩ ts
  | args {d d' e l ts ts'} (n : List UInt8) : G 9 d ⟨5, P0, 0, bs n, 0, l⟩ ts → l ≠ [] → G 5 d' e ts' → G 9 (max d (d' + 1)) ⟨5, P0, 0, bs n, 0, l ++ [e]⟩ (ts ++ mkT [44] :: ts')
  | up {n d e ts} : n < 5 → G n d e ts → G (n + 1) d e ts
  | bin {n d d' x y m ts ts'} : n < 5 → G (n + 1) d x ts → (n = 2 → G n d x ts) → G n d' y ts' → m ∈ levelList.getD (4 - n) [] → G (n + 1) (max d d') (bothP m P0 x y) (ts ++ mkT m :: ts')
theorem lev_apart : ∀ n : Nat, n < 5 → ∀ m ∈ levelList.getD (4 - n) [], (∀ lv, lv < 5 → 5 ≤ lv + n → ∀ m' ∈ levelList.getD lv [], (m == m') = false) ∧ (m == [91]) = false ∧ (m == [40]) = false ∧ (m == []) = false ∧ (m == [41]) = false := by decide
theorem noOp_mark {n : Nat} (hn : n < 5) {m : List UInt8} (hm : m ∈ levelList.getD (4 - n) []) (r : List Tk) : noOp n (mkT m :: r) := by
  obtain ⟨h1, h2, h3, _⟩ := lev_apart n hn m hm
  refine ⟨mkT m, r, rfl, fun lv a b m' hm' => ?_, ?_, ?_⟩
  · rw [show (mkT m).2.1 = m from rfl, h1 lv a b m' hm']; rfl
  · show (((4 : Int) == 3 || (4 : Int) == 4) && m == [91]) = false
    rw [h2]; rfl
  · show (((4 : Int) == 3 || (4 : Int) == 4) && m == [40]) = false
    rw [h3]; rfl
theorem noOp_close (n : Nat) (x : List UInt8) (hx : (levelList.flatten.all fun m => x != m) = true) (h1 : (x == [91]) = false) (h2 : (x == [40]) = false) (r : List Tk) : noOp n (mkT x :: r) := by
  refine ⟨mkT x, r, rfl, fun lv a b m hm => ?_, ?_, ?_⟩
  · have hf : m ∈ levelList.flatten := by
      rw [List.mem_flatten]
      refine ⟨levelList.getD lv [], ?_, hm⟩
      rw [List.getD_eq_getElem?_getD, List.getElem?_eq_getElem (by simpa using a)]
      exact List.getElem_mem _
    have := List.all_eq_true.1 hx m hf
    show ((4 : Int) == 4 && x == m) = false
    simp only [bne_iff_ne, ne_eq] at this
    simp [this]
  · show (((4 : Int) == 3 || (4 : Int) == 4) && x == [91]) = false
    rw [h1]; rfl
  · show (((4 : Int) == 3 || (4 : Int) == 4) && x == [40]) = false
    rw [h2]; rfl
/-- An expression's tokens begin with one that closes nothing. -/
theorem G.first {n d : Nat} {e : EX} {ts : List Tk} (h : G n d e ts) : ∃ t r, ts = t :: r ∧ headT_ [41] t = false ∧ t.1 ≠ 0 := by
  induction h with
  | num t v => exact ⟨_, _, rfl, by unfold headT_; simp, by simp⟩
  | tru => exact ⟨_, _, rfl, by decide, by decide⟩
  | fal => exact ⟨_, _, rfl, by decide, by decide⟩
  | var n => exact ⟨_, _, rfl, by unfold headT_; simp, by simp⟩
  | par h ih => exact ⟨_, _, rfl, by decide, by decide⟩
  | idx n h ih => exact ⟨_, _, rfl, by unfold headT_; simp, by simp⟩
  | not h ih => exact ⟨_, _, rfl, by decide, by decide⟩
  | neg h ih => exact ⟨_, _, rfl, by decide, by decide⟩
  | call0 n => exact ⟨_, _, rfl, by unfold headT_; simp, by simp⟩
  | call n h ih => exact ⟨_, _, rfl, by unfold headT_; simp, by simp⟩
  | arg1 n h ih => exact ih
  | args n h hl h' ih ih' =>
    obtain ⟨t, r, rfl, h1, h2⟩ := ih
    exact ⟨t, _, rfl, h1, h2⟩
  | up hn h ih => exact ih
  | bin hn h h2 h' hm ih _ ih' =>
    obtain ⟨t, r, rfl, h1, h2⟩ := ih
    exact ⟨t, _, rfl, h1, h2⟩
/-- Fuel enough at a depth. -/
def Fu (D : Int) (K : Nat) : Prop := 2 * (201 - D) + 2 ≤ (K : Int)
/-- A level's operands so far: it goes on as a chain. -/
def LvOut (F : Fns) (m : Nat) (e : EX) (s : PS) (rest : List Tk) (D : Int) (d : Nat) : Prop :=
  (200 < D + d ∧ ∃ e' s', exprP F (m + 1) s = some (e', s') ∧ s'.e = 13 ∧ s'.deep = D) ∨
  (D + d ≤ 200 ∧ ∃ e' s', At s' rest D ∧ zE e' = e ∧ ((∃ K, s'.ts.length < K ∧ exprP F (m + 1) s = chainP (exprP F m) (4 - m) K e' s') ∨ (m = 2 ∧ exprP F (m + 1) s = some (e', s'))))
theorem LvOut.out {F : Fns} {m : Nat} {e : EX} {s : PS} {rest : List Tk} {D : Int} {d : Nat} (hm : m < 5) (h : LvOut F m e s rest D d) (hn : noOp (m + 1) rest) : Out (exprP F (m + 1) s) e D rest d := by
  rcases h with ⟨h1, e', s', h2, h3, h4⟩ | ⟨h1, e', s', h2, h3, h4⟩
  · exact ⟨e', s', h2, h4, .inr ⟨h1, h3⟩⟩
  · rcases h4 with ⟨K, h5, h6⟩ | ⟨_, h6⟩
    · cases K with
      | zero => omega
      | succ K =>
        rw [chainP, h2.good, if_neg (by decide), h2.no_mark hn (4 - m) (by omega) (by omega), if_pos rfl] at h6
        exact ⟨e', s', h6, h2.deep, .inl ⟨h1, h2.ok, h2.toks, h3⟩⟩
    · exact ⟨e', s', h6, h2.deep, .inl ⟨h1, h2.ok, h2.toks, h3⟩⟩
/-- Arguments so far. -/
def ArOut (wh : PS → Option (EX × PS)) (K : Nat) (l : List EX) (s : PS) (rest : List Tk) (D : Int) (d : Nat) : Prop :=
  (200 < D + d ∧ ∃ l' s', listP wh [41] K [] s = some (l', s') ∧ s'.e = 13 ∧ s'.deep = D) ∨
  (D + d ≤ 200 ∧ ∃ l' s' K', At s' rest D ∧ l'.map zE = l ∧ s'.ts.length < K' ∧ listP wh [41] K [] s = listP wh [41] K' l' s')
/-- What is shown of a derivation. -/
def Mot (n d : Nat) (e : EX) (ts : List Tk) : Prop := ∀ (K : Nat) (D : Int) (s : PS) (rest : List Tk), At s (ts ++ rest) D → 0 ≤ D → D ≤ 200 → Fu D K →
  (n = 0 → noOp 0 rest → Out (unaryP (fnsF K) s) e D rest d) ∧
  (n = 9 → (∃ t r, rest = t :: r ∧ (headT_ [44] t = true ∨ headT_ [41] t = true)) → noOp 5 rest → ∀ K', s.ts.length < K' → ArOut (fnsF K).whole K' e.f5 s rest D d) ∧
  (∀ m, n = m + 1 → m < 5 → noOp m rest → LvOut (fnsF (K + 1)) m e s rest D d)
theorem fns_succ (k : Nat) : fnsF (k + 1) = stepF (fnsF k) := rfl
theorem At.down {s : PS} {ts : List Tk} {D : Int} (h : At s ts D) (hD : D < 200) : (downP s).1 = true ∧ At (downP s).2 ts (D + 1) := by
  unfold downP
  rw [h.good, if_neg (by decide), if_neg (by rw [h.deep]; omega)]
  exact ⟨rfl, h.ok, h.toks, by show s.deep + 1 = D + 1; rw [h.deep]⟩
theorem At.down_not {s : PS} {ts : List Tk} {D : Int} (h : At s ts D) (hD : 200 ≤ D) : (downP s).1 = false ∧ (downP s).2.e = 13 ∧ (downP s).2.deep = D := by
  unfold downP
  rw [h.good, if_neg (by decide), if_pos (by rw [h.deep]; omega)]
  refine ⟨rfl, ?_, ?_⟩
  · unfold failP
    rw [if_pos h.ok]
  · show (failP s 13).deep = D
    rw [fail_deep]
    exact h.deep
/-- A whole expression, one deeper. -/
theorem whole_out {d : Nat} {e : EX} {ts : List Tk} (ih : Mot 5 d e ts) {K : Nat} {D : Int} {s : PS} {rest : List Tk} (h : At s (ts ++ rest) D) (h0 : 0 ≤ D) (h1 : D ≤ 200) (hK : Fu D K) (hn : noOp 5 rest) : Out ((fnsF K).whole s) e D rest (d + 1) := by
  unfold Fu at hK
  obtain ⟨K, rfl⟩ : ∃ k, K = k + 2 := ⟨K - 2, by omega⟩
  rw [fns_succ (K + 1)]
  show Out (wholeP (fnsF (K + 1)) s) e D rest (d + 1)
  unfold wholeP
  by_cases hD : D < 200
  · obtain ⟨g1, g2⟩ := h.down hD
    rw [if_pos g1]
    have hl := (ih K (D + 1) (downP s).2 rest g2 (by omega) (by omega) (by unfold Fu; omega)).2.2 4 rfl (by decide) (hn.le (by decide))
    obtain ⟨e', s', q1, q2, q3⟩ := hl.out (by decide) hn
    rw [q1]
    refine ⟨e', upP s', rfl, by show s'.deep - 1 = D; omega, ?_⟩
    rcases q3 with ⟨a, b, c, d'⟩ | ⟨a, b⟩
    · exact .inl ⟨by omega, b, c, d'⟩
    · exact .inr ⟨by omega, b⟩
  · obtain ⟨g1, g2, g3⟩ := h.down_not (by omega)
    rw [if_neg (by rw [g1]; decide)]
    exact ⟨_, _, rfl, g3, .inr ⟨by omega, g2⟩⟩
theorem headT_num (t : List UInt8) (v : Int) (x : List UInt8) : headT_ x (2, t, v) = false := by unfold headT_; simp
theorem headT_name (n x : List UInt8) : headT_ x (nmT n) = false := by unfold headT_; simp
theorem tok_bs {t : TK} {n : List UInt8} {k v : Int} (h : er t = (k, n, v)) : t.f1 = bs n := by
  have e : t.f1.data.toList = n := congrArg (fun x => x.2.1) h
  rw [← e]
  simp [bs]
theorem Out.fine {e e' : EX} {s' : PS} {D : Int} {rest : List Tk} {d : Nat} (h1 : At s' rest D) (h2 : D + d ≤ 200) (h3 : zE e' = e) : Out (some (e', s')) e D rest d := ⟨e', s', rfl, h1.deep, .inl ⟨h2, h1.ok, h1.toks, h3⟩⟩
/-- Without a sign unary is primary. -/
theorem At.unary {s : PS} {t : Tk} {r : List Tk} {D : Int} (h : At s (t :: r) D) (h1 : headT_ [33] t = false) (h2 : headT_ [45] t = false) (F : Fns) : unaryP F s = primaryP F (nowP s).f3 s := by
  unfold unaryP
  rw [h.good, if_neg (by decide), h.is, h.is, h1, h2, if_neg (by decide)]
theorem At.name {s : PS} {n : List UInt8} {r : List Tk} {D : Int} (h : At s (nmT n :: r) D) : nameP s = (bs n, skipP s) := by
  unfold nameP
  rw [h.good, h.kind, tok_bs h.now, if_neg (by simp)]
/-- A name ahead: primary takes the name. -/
theorem At.prim_name {s : PS} {n : List UInt8} {r : List Tk} {D : Int} (h : At s (nmT n :: r) D) (F : Fns) (p : S32) : primaryP F p s =
    if (takeP (skipP s) (bs [91])).1 then (match F.whole (takeP (skipP s) (bs [91])).2 with | none => none | some (e, s2) => some (⟨4, p, 0, bs n, 0, [e]⟩, wantP s2 (bs [93])))
    else if (takeP (skipP s) (bs [40])).1 then (match argsP F (takeP (skipP s) (bs [40])).2 with | none => none | some (l, s2) => some (⟨5, p, 0, bs n, 0, l⟩, s2))
    else some (⟨3, p, 0, bs n, 0, []⟩, skipP s) := by
  unfold primaryP
  rw [h.kind, h.take_no (headT_name n _), h.take_no (headT_name n _), h.take_no (headT_name n _), h.name]
  rfl
/-- Behind a fault too deep nothing more is found. -/
theorem Out.deepF {e : EX} {s' : PS} {D : Int} {rest : List Tk} {d : Nat} {x : EX} (h1 : s'.e = 13) (h2 : s'.deep = D) (h3 : 200 < D + d) : Out (some (x, s')) e D rest d := ⟨x, s', rfl, h2, .inr ⟨h3, h1⟩⟩
set_option maxHeartbeats 2000000 in
theorem G.mot {n d : Nat} {e : EX} {ts : List Tk} (h : G n d e ts) : Mot n d e ts := by
  induction h with
  | num t v =>
    intro K D s rest h h0 h1 hK
    refine ⟨fun _ hn => ?_, fun e => (by cases e), fun m e => (by cases e)⟩
    rw [h.unary (headT_num _ _ _) (headT_num _ _ _)]
    unfold primaryP
    rw [h.kind, if_pos rfl]
    refine .fine (h.skip (by simp)) (by omega) ?_
    have e : (nowP s).f2 = v := congrArg (fun x => x.2.2) h.now
    rw [e]; rfl
  | tru =>
    intro K D s rest h h0 h1 hK
    refine ⟨fun _ hn => ?_, fun e => (by cases e), fun m e => (by cases e)⟩
    rw [h.unary (by decide) (by decide)]
    unfold primaryP
    rw [h.kind, if_neg (by decide), h.take_yes (by decide), if_pos rfl]
    exact .fine (h.skip (by decide)) (by omega) rfl
  | fal =>
    intro K D s rest h h0 h1 hK
    refine ⟨fun _ hn => ?_, fun e => (by cases e), fun m e => (by cases e)⟩
    rw [h.unary (by decide) (by decide)]
    unfold primaryP
    rw [h.kind, if_neg (by decide), h.take_no (by decide), if_neg (by simp), h.take_yes (by decide), if_pos rfl]
    exact .fine (h.skip (by decide)) (by omega) rfl
  | var n =>
    intro K D s rest h h0 h1 hK
    refine ⟨fun _ hn => ?_, fun e => (by cases e), fun m e => (by cases e)⟩
    rw [h.unary (headT_name _ _) (headT_name _ _), h.prim_name]
    obtain ⟨t, r, rfl, _, n1, n2⟩ := hn
    have h2 : At (skipP s) (t :: r) D := h.skip (by simp)
    rw [h2.take_no n1, if_neg (by simp), h2.take_no n2, if_neg (by simp)]
    exact .fine h2 (by omega) rfl
  | @par d e ts hg ih =>
    intro K D s rest h h0 h1 hK
    refine ⟨fun _ hn => ?_, fun e => (by cases e), fun m e => (by cases e)⟩
    have h : At s (mkT [40] :: (ts ++ (mkT [41] :: rest))) D := by simpa using h
    rw [h.unary (by decide) (by decide)]
    unfold primaryP
    rw [h.kind, if_neg (by decide), h.take_no (by decide), if_neg (by simp), h.take_no (by decide), if_neg (by simp), h.take_yes (by decide), if_pos rfl]
    obtain ⟨e', s', q1, q2, q3⟩ := whole_out ih (h.skip (by decide)) h0 h1 hK (noOp_close 5 [41] (by decide) (by decide) (by decide) rest)
    show Out (match (fnsF K).whole (skipP s) with | none => none | some (e, s2) => some (e, wantP s2 (bs [41]))) e D rest (d + 1)
    rw [q1]
    rcases q3 with ⟨a, b, c, z⟩ | ⟨a, b⟩
    · have h2 : At s' (mkT [41] :: rest) D := ⟨b, c, q2⟩
      show Out (some (e', wantP s' (bs [41]))) e D rest (d + 1)
      rw [h2.want (by decide)]
      exact .fine (h2.skip (by decide)) (by omega) z
    · show Out (some (e', wantP s' (bs [41]))) e D rest (d + 1)
      rw [bad_want (bad_13 b)]
      exact .deepF b q2 (by omega)
  | @idx d e ts n hg ih =>
    intro K D s rest h h0 h1 hK
    refine ⟨fun _ hn => ?_, fun e => (by cases e), fun m e => (by cases e)⟩
    have h : At s (nmT n :: mkT [91] :: (ts ++ (mkT [93] :: rest))) D := by simpa using h
    rw [h.unary (headT_name _ _) (headT_name _ _), h.prim_name]
    have h2 := h.skip (by simp)
    rw [h2.take_yes (by decide), if_pos rfl]
    obtain ⟨e', s', q1, q2, q3⟩ := whole_out ih (h2.skip (by decide)) h0 h1 hK (noOp_close 5 [93] (by decide) (by decide) (by decide) rest)
    show Out (match (fnsF K).whole (skipP (skipP s)) with | none => none | some (e, s2) => some (⟨4, _, 0, bs n, 0, [e]⟩, wantP s2 (bs [93]))) _ D rest (d + 1)
    rw [q1]
    rcases q3 with ⟨a, b, c, z⟩ | ⟨a, b⟩
    · have h3 : At s' (mkT [93] :: rest) D := ⟨b, c, q2⟩
      show Out (some (_, wantP s' (bs [93]))) _ D rest (d + 1)
      rw [h3.want (by decide)]
      exact .fine (h3.skip (by decide)) (by omega) (by rw [zE, zEs, zEs, z])
    · show Out (some (_, wantP s' (bs [93]))) _ D rest (d + 1)
      rw [bad_want (bad_13 b)]
      exact .deepF b q2 (by omega)
  | @not d e ts hg ih =>
    intro K D s rest h h0 h1 hK
    refine ⟨fun _ hn => ?_, fun e => (by cases e), fun m e => (by cases e)⟩
    unfold Fu at hK
    obtain ⟨K, rfl⟩ : ∃ k, K = k + 1 := ⟨K - 1, by omega⟩
    unfold unaryP
    rw [h.good, if_neg (by decide), h.is, show headT_ [33] (mkT [33]) = true from by decide, Bool.true_or, if_pos rfl]
    by_cases hD : D < 200
    · obtain ⟨g1, g2⟩ := h.down hD
      rw [if_pos g1]
      have h3 := g2.skip (by decide)
      obtain ⟨e', s', q1, q2, q3⟩ := (ih K (D + 1) _ rest h3 (by omega) (by omega) (by unfold Fu; omega)).1 rfl hn
      rw [show (fnsF (K + 1)).unary (skipP (downP s).2) = unaryP (fnsF K) (skipP (downP s).2) from rfl, q1]
      have e2 : ((nowP (downP s).2).f1.data.toList == [33]) = true := by
        have : (nowP (downP s).2).f1.data.toList = [33] := congrArg (fun x => x.2.1) g2.now
        rw [this]; decide
      show Out (if ((nowP (downP s).2).f1.data.toList == [33]) = true then some (⟨9, (nowP s).f3, 0, bs [], 0, [e']⟩, upP s') else _) _ D rest (d + 1)
      rw [if_pos e2]
      rcases q3 with ⟨a, b, c, z⟩ | ⟨a, b⟩
      · exact .fine ⟨b, c, by show s'.deep - 1 = D; omega⟩ (by omega) (by rw [zE, zEs, zEs, z])
      · exact .deepF b (by show s'.deep - 1 = D; omega) (by omega)
    · obtain ⟨g1, g2, g3⟩ := h.down_not (by omega)
      rw [if_neg (by rw [g1]; decide)]
      exact .deepF g2 g3 (by omega)
  | @neg d e ts hg ih =>
    intro K D s rest h h0 h1 hK
    refine ⟨fun _ hn => ?_, fun e => (by cases e), fun m e => (by cases e)⟩
    unfold Fu at hK
    obtain ⟨K, rfl⟩ : ∃ k, K = k + 1 := ⟨K - 1, by omega⟩
    unfold unaryP
    rw [h.good, if_neg (by decide), h.is, h.is, show headT_ [33] (mkT [45]) = false from by decide, show headT_ [45] (mkT [45]) = true from by decide, Bool.false_or, if_pos rfl]
    by_cases hD : D < 200
    · obtain ⟨g1, g2⟩ := h.down hD
      rw [if_pos g1]
      have h3 := g2.skip (by decide)
      obtain ⟨e', s', q1, q2, q3⟩ := (ih K (D + 1) _ rest h3 (by omega) (by omega) (by unfold Fu; omega)).1 rfl hn
      rw [show (fnsF (K + 1)).unary (skipP (downP s).2) = unaryP (fnsF K) (skipP (downP s).2) from rfl, q1]
      have e2 : ¬ ((nowP (downP s).2).f1.data.toList == [33]) = true := by
        have : (nowP (downP s).2).f1.data.toList = [45] := congrArg (fun x => x.2.1) g2.now
        rw [this]; decide
      show Out (if ((nowP (downP s).2).f1.data.toList == [33]) = true then _ else some (⟨6, (nowP s).f3, 0, bs [], 2, [⟨1, (nowP s).f3, 0, bs [], 0, []⟩, e']⟩, upP s')) _ D rest (d + 1)
      rw [if_neg e2]
      rcases q3 with ⟨a, b, c, z⟩ | ⟨a, b⟩
      · exact .fine ⟨b, c, by show s'.deep - 1 = D; omega⟩ (by omega) (by rw [zE, zEs, zEs, zEs, z, zE, zEs])
      · exact .deepF b (by show s'.deep - 1 = D; omega) (by omega)
    · obtain ⟨g1, g2, g3⟩ := h.down_not (by omega)
      rw [if_neg (by rw [g1]; decide)]
      exact .deepF g2 g3 (by omega)
  | call0 n =>
    intro K D s rest h h0 h1 hK
    refine ⟨fun _ hn => ?_, fun e => (by cases e), fun m e => (by cases e)⟩
    have h : At s (nmT n :: mkT [40] :: mkT [41] :: rest) D := by simpa using h
    rw [h.unary (headT_name _ _) (headT_name _ _), h.prim_name]
    have h2 := h.skip (by simp)
    rw [h2.take_no (by decide), if_neg (by simp), h2.take_yes (by decide), if_pos rfl]
    have h3 := h2.skip (by decide)
    show Out (match argsP (fnsF K) (skipP (skipP s)) with | none => none | some (l, s2) => some (⟨5, _, 0, bs n, 0, l⟩, s2)) _ D rest 0
    have ha : argsP (fnsF K) (skipP (skipP s)) = some ([], skipP (skipP (skipP s))) := by
      unfold argsP
      rw [listP, h3.good, h3.is, show headT_ [41] (mkT [41]) = true from by decide, if_neg (by decide)]
      show some ([], wantP (skipP (skipP s)) (bs [41])) = _
      rw [h3.want (by decide)]
    rw [ha]
    exact .fine (h3.skip (by decide)) (by omega) rfl
  | @call d l ts n hg ih =>
    intro K D s rest h h0 h1 hK
    refine ⟨fun _ hn => ?_, fun e => (by cases e), fun m e => (by cases e)⟩
    have h : At s (nmT n :: mkT [40] :: (ts ++ (mkT [41] :: rest))) D := by simpa using h
    rw [h.unary (headT_name _ _) (headT_name _ _), h.prim_name]
    have h2 := h.skip (by simp)
    rw [h2.take_no (by decide), if_neg (by simp), h2.take_yes (by decide), if_pos rfl]
    have h3 := h2.skip (by decide)
    show Out (match argsP (fnsF K) (skipP (skipP s)) with | none => none | some (l, s2) => some (⟨5, _, 0, bs n, 0, l⟩, s2)) _ D rest d
    have ha := (ih K D _ (mkT [41] :: rest) h3 h0 h1 hK).2.1 rfl ⟨_, _, rfl, .inr (by decide)⟩ (noOp_close 5 [41] (by decide) (by decide) (by decide) rest) ((skipP (skipP s)).ts.length + 2) (by omega)
    unfold argsP
    rcases ha with ⟨a, l', s', q1, q2, q3⟩ | ⟨a, l', s', K', q1, q2, q3, q4⟩
    · rw [q1]
      show Out (some (_, wantP s' (bs [41]))) _ D rest d
      rw [bad_want (bad_13 q2)]
      exact .deepF q2 q3 a
    · rw [q4]
      cases K' with
      | zero => omega
      | succ K' =>
        rw [listP, q1.good, q1.is, show headT_ [41] (mkT [41]) = true from by decide, if_neg (by decide)]
        show Out (some (_, wantP s' (bs [41]))) _ D rest d
        rw [q1.want (by decide)]
        refine .fine (q1.skip (by decide)) a ?_
        rw [zE, zEs_map]
        exact congrArg (S51.mk 5 P0 0 (bs n) 0) q2
  | @arg1 d e ts n hg ih =>
    intro K D s rest h h0 h1 hK
    refine ⟨fun e => (by cases e), fun _ hr hn K' hK' => ?_, fun m e h5 => (by omega)⟩
    obtain ⟨K', rfl⟩ : ∃ k, K' = k + 1 := ⟨K' - 1, by omega⟩
    obtain ⟨t, r, rfl, f1, f2⟩ := hg.first
    obtain ⟨e', s', q1, q2, q3⟩ := whole_out ih h h0 h1 hK hn
    have hst : listP (fnsF K).whole [41] (K' + 1) [] s = listP (fnsF K).whole [41] K' [e'] s' := by
      rw [listP, h.good, h.is, f1, if_pos (by decide)]
      show (match (fnsF K).whole s with | none => none | some (e, s2) => listP (fnsF K).whole [41] K' [e] s2) = _
      rw [q1]
    rcases q3 with ⟨a, b, c, z⟩ | ⟨a, b⟩
    · have hlen : s'.ts.length < s.ts.length := by
        have e1 : s'.ts.length = rest.length := by rw [← c, List.length_map]
        have e2 : s.ts.length = (t :: r ++ rest).length := by rw [← h.toks, List.length_map]
        rw [e1, e2, List.length_append, List.length_cons]
        omega
      exact .inr ⟨by omega, [e'], s', K', ⟨b, c, q2⟩, by rw [List.map_cons, List.map_nil, z], by omega, hst⟩
    · refine .inl ⟨by omega, [e'], s', ?_, b, q2⟩
      rw [hst]
      have hts : 0 < s.ts.length := by
        have e2 : s.ts.length = (t :: r ++ rest).length := by rw [← h.toks, List.length_map]
        rw [e2, List.length_append, List.length_cons]
        omega
      obtain ⟨K', rfl⟩ : ∃ k, K' = k + 1 := ⟨K' - 1, by omega⟩
      exact bad_list (bad_13 b) _ _ _ _
  | @args d d' e l ts ts' n hg hl hg' ih ih' =>
    intro K D s rest h h0 h1 hK
    refine ⟨fun e => (by cases e), fun _ hr hn K' hK' => ?_, fun m e h5 => (by omega)⟩
    have h : At s (ts ++ (mkT [44] :: (ts' ++ rest))) D := by simpa using h
    have ha := (ih K D _ _ h h0 h1 hK).2.1 rfl ⟨_, _, rfl, .inl (by decide)⟩ (noOp_close 5 [44] (by decide) (by decide) (by decide) _) K' hK'
    rcases ha with ⟨a, l', s', q1, q2, q3⟩ | ⟨a, l', s', K2, q1, q2, q3, q4⟩
    · exact .inl ⟨by omega, l', s', q1, q2, q3⟩
    · obtain ⟨K2, rfl⟩ : ∃ k, K2 = k + 1 := ⟨K2 - 1, by omega⟩
      have h3 := q1.skip (by decide)
      obtain ⟨e', s2, r1, r2, r3⟩ := whole_out ih' h3 h0 h1 hK hn
      have hl' : 0 < l'.length := by
        rcases Nat.eq_zero_or_pos l'.length with hz | hz
        · exfalso
          apply hl
          show (⟨5, P0, 0, bs n, 0, l⟩ : EX).f5 = []
          rw [← q2, List.length_eq_zero_iff.1 hz]
          rfl
        · exact hz
      have hst : listP (fnsF K).whole [41] (K2 + 1) l' s' = listP (fnsF K).whole [41] K2 (l' ++ [e']) s2 := by
        rw [listP, q1.good, q1.is, show headT_ [41] (mkT [44]) = false from by decide, if_pos (by decide), if_pos hl', q1.want (by decide), r1]
      rw [ArOut, q4, hst]
      have e2 : s'.ts.length = (mkT [44] :: (ts' ++ rest)).length := by rw [← q1.toks, List.length_map]
      rw [List.length_cons, List.length_append] at e2
      rcases r3 with ⟨a2, b, c, z⟩ | ⟨a2, b⟩
      · have e1 : s2.ts.length = rest.length := by rw [← c, List.length_map]
        exact .inr ⟨by omega, l' ++ [e'], s2, K2, ⟨b, c, r2⟩, by rw [List.map_append, q2, List.map_cons, List.map_nil, z], by omega, rfl⟩
      · obtain ⟨K2, rfl⟩ : ∃ k, K2 = k + 1 := ⟨K2 - 1, by omega⟩
        exact .inl ⟨by omega, l' ++ [e'], s2, bad_list (bad_13 b) _ _ _ _, b, r2⟩
  | @up n d e ts hn5 hg ih =>
    intro K D s rest h h0 h1 hK
    refine ⟨fun e => (by cases e), fun e => (by omega), fun m hm h5 hn => ?_⟩
    obtain rfl : n = m := by omega
    -- the first operand, at the level below
    have hop : Out (exprP (fnsF (K + 1)) n s) e D rest d := by
      cases n with
      | zero => exact (ih K D s rest h h0 h1 hK).1 rfl hn
      | succ n => exact ((ih K D s rest h h0 h1 hK).2.2 n rfl (by omega) (hn.le (by omega))).out (by omega) hn
    obtain ⟨e', s', q1, q2, q3⟩ := hop
    rcases q3 with ⟨a, b, c, z⟩ | ⟨a, b⟩
    · refine .inr ⟨a, e', s', ⟨b, c, q2⟩, z, .inl ⟨s'.ts.length + 1, by omega, ?_⟩⟩
      rw [exprP, q1]
    · refine .inl ⟨a, e', s', ?_, b, q2⟩
      rw [exprP, q1]
      exact bad_chain (bad_13 b) _ _ _ _
  | @bin n d d' x y m ts ts' hn5 hg h2 hg' hm ih ih2 ih' =>
    intro K D s rest h h0 h1 hK
    refine ⟨fun e => (by cases e), fun e => (by omega), fun m' hm' h5 hn => ?_⟩
    obtain rfl : n = m' := by omega
    have h : At s (ts ++ (mkT m :: (ts' ++ rest))) D := by simpa using h
    obtain ⟨_, _, _, hm0, _⟩ := lev_apart n hn5 m hm
    -- the chain goes on: at the level that holds one mark alone the left side was one operand
    have hx : (200 < D + d ∧ ∃ e' s', exprP (fnsF (K + 1)) (n + 1) s = some (e', s') ∧ s'.e = 13 ∧ s'.deep = D) ∨
        (D + d ≤ 200 ∧ ∃ e' s' K2, At s' (mkT m :: (ts' ++ rest)) D ∧ zE e' = x ∧ s'.ts.length < K2 ∧ exprP (fnsF (K + 1)) (n + 1) s = chainP (exprP (fnsF (K + 1)) n) (4 - n) K2 e' s') := by
      by_cases hn2 : n = 2
      · subst hn2
        obtain ⟨e', s', q1, q2, q3⟩ := ((ih2 rfl K D s _ h h0 h1 hK).2.2 1 rfl (by decide) ((noOp_mark hn5 hm _).le (by decide))).out (by decide) (noOp_mark hn5 hm _)
        rcases q3 with ⟨a, b, c, z⟩ | ⟨a, b⟩
        · refine .inr ⟨a, e', s', s'.ts.length + 1, ⟨b, c, q2⟩, z, by omega, ?_⟩
          rw [exprP, q1]
        · refine .inl ⟨a, e', s', ?_, b, q2⟩
          rw [exprP, q1]
          exact bad_chain (bad_13 b) _ _ _ _
      · rcases (ih K D s _ h h0 h1 hK).2.2 n rfl hn5 (noOp_mark hn5 hm _) with ⟨a, e', s', q1, q2, q3⟩ | ⟨a, e', s', q1, q2, q3⟩
        · exact .inl ⟨a, e', s', q1, q2, q3⟩
        · rcases q3 with ⟨K2, g1, g2⟩ | ⟨g1, _⟩
          · exact .inr ⟨a, e', s', K2, q1, q2, g1, g2⟩
          · exact absurd g1 hn2
    rcases hx with ⟨a, e', s', q1, q2, q3⟩ | ⟨a, e', s', K2, q1, g3, g1, g2⟩
    · exact .inl ⟨by omega, e', s', q1, q2, q3⟩
    · have h3 := q1.skip (by simp)
      obtain ⟨K2, rfl⟩ : ∃ k, K2 = k + 1 := ⟨K2 - 1, by omega⟩
      have hop : Out (exprP (fnsF (K + 1)) n (skipP s')) y D rest d' := by
        cases n with
        | zero => exact (ih' K D _ rest h3 h0 h1 hK).1 rfl hn
        | succ n => exact ((ih' K D _ rest h3 h0 h1 hK).2.2 n rfl (by omega) (hn.le (by omega))).out (by omega) hn
      obtain ⟨y', s2, r1, r2, r3⟩ := hop
      have hst : exprP (fnsF (K + 1)) (n + 1) s = if 4 - n = 2 then some (bothP m (nowP s').f3 e' y', s2) else chainP (exprP (fnsF (K + 1)) n) (4 - n) K2 (bothP m (nowP s').f3 e' y') s2 := by
        rw [g2, chainP, q1.good, if_neg (by decide), q1.yes_mark hm, if_neg (by simpa using hm0), r1]
      have e2 : s'.ts.length = (mkT m :: (ts' ++ rest)).length := by rw [← q1.toks, List.length_map]
      rw [List.length_cons, List.length_append] at e2
      rcases r3 with ⟨a2, b, c, z⟩ | ⟨a2, b⟩
      · have e1 : s2.ts.length = rest.length := by rw [← c, List.length_map]
        refine .inr ⟨by omega, bothP m (nowP s').f3 e' y', s2, ⟨b, c, r2⟩, by rw [zE_both, g3, z], ?_⟩
        by_cases hl : 4 - n = 2
        · exact .inr ⟨by omega, by rw [hst, if_pos hl]⟩
        · exact .inl ⟨K2, by omega, by rw [hst, if_neg hl]⟩
      · refine .inl ⟨by omega, bothP m (nowP s').f3 e' y', s2, ?_, b, r2⟩
        rw [hst]
        by_cases hl : 4 - n = 2
        · rw [if_pos hl]
        · rw [if_neg hl]
          obtain ⟨K2, rfl⟩ : ∃ k, K2 = k + 1 := ⟨K2 - 1, by omega⟩
          exact bad_chain (bad_13 b) _ _ _ _
end Go.Proofs.YtenkganofobioaaDoor.B
