/- What lexing a whole text answers, in plain words; that lex.All answers so; and the law's own example. -/
import Derived.Test.YtfljigegjhnidaaDoorLexSpec2
import Derived.Test.YtfljigegjhnidaaDoorHead
namespace Go.Proofs.YtfljigegjhnidaaDoor.B
open Go.RowKit Go.Proofs.YtfljigegjhnidaaDoorW.PrintWords Go.Proofs.YtfljigegjhnidaaDoorW.PrintLast Go.Proofs.YtfljigegjhnidaaDoorW.PrintMore
set_option linter.unusedVariables false
set_option linter.unusedSimpArgs false

theorem LeO.le {α : Type} {f : Nat → Option α} (h : ∀ k, LeO (f k) (f (k + 1))) {k k' : Nat} (hk : k ≤ k') {r : α} (hr : f k = some r) : f k' = some r := by
  induction hk with
  | refl => exact hr
  | step _ ih => exact h _ _ ih

/-- A token as the program has it. -/
def tk (kd : Int) (tx : List UInt8) (num : Int) (p : Int × Int) : S34 := ⟨kd, ⟨tx.toArray⟩, num, ⟨p.1, p.2⟩⟩
theorem tokOf_cons (x : UInt8) (r : List UInt8) : tokOf (x :: r) =
    if letterB x = true then .inr (if (wordList.any fun y => y == (x :: r).takeWhile (runB true)) = true then 3 else 1, (x :: r).takeWhile (runB true), 0)
    else if digitB x = true then (match valL ((x :: r).takeWhile (runB false)) 0 with | some v => .inr (2, (x :: r).takeWhile (runB false), v) | none => .inl 11)
    else if firstOf markList (x :: r) = [] then .inl 10 else .inr (4, firstOf markList (x :: r), 0) := rfl
theorem tokOf_ne {r : List UInt8} {t : Int × List UInt8 × Int} (hr : r ≠ []) (h : tokOf r = .inr t) : t.2.1 ≠ [] ∧ t.1 ≠ 0 ∧ t.2.1 <+: r := by
  cases r with
  | nil => exact absurd rfl hr
  | cons x r =>
    rw [tokOf_cons] at h
    by_cases hl : letterB x = true
    · rw [if_pos hl] at h
      injection h with h
      subst h
      refine ⟨?_, ?_, List.takeWhile_prefix _⟩
      · rw [show (((if (wordList.any fun y => y == (x :: r).takeWhile (runB true)) = true then (3 : Int) else 1), (x :: r).takeWhile (runB true), (0 : Int)) : Int × List UInt8 × Int).2.1 = (x :: r).takeWhile (runB true) from rfl, List.takeWhile_cons, if_pos (by simp [runB, hl])]
        simp
      · show (if _ then (3 : Int) else 1) ≠ 0
        split <;> decide
    · rw [if_neg hl] at h
      by_cases hd : digitB x = true
      · rw [if_pos hd] at h
        cases hv : valL ((x :: r).takeWhile (runB false)) 0 with
        | some v =>
          rw [hv] at h
          injection h with h
          subst h
          refine ⟨?_, show (2 : Int) ≠ 0 by decide, List.takeWhile_prefix _⟩
          rw [show (((2 : Int), (x :: r).takeWhile (runB false), v) : Int × List UInt8 × Int).2.1 = (x :: r).takeWhile (runB false) from rfl, List.takeWhile_cons, if_pos (by simp [runB, hd])]
          simp
        | none => rw [hv] at h; cases h
      · rw [if_neg hd] at h
        by_cases hf : firstOf markList (x :: r) = []
        · rw [if_pos hf] at h; cases h
        · rw [if_neg hf] at h
          injection h with h
          subst h
          exact ⟨hf, show (4 : Int) ≠ 0 by decide, firstOf_prefix _ _⟩

/-- The tokens of a text from here on: what comes out, or the first error (a number's, a sign's) and where. -/
inductive LexR : List UInt8 → Int × Int → List S34 → Int → Int × Int → Prop
  | stop (r : List UInt8) (p : Int × Int) (b : Nat) (hb : Blank r b) (h : r.drop b = []) : LexR r p [tk 0 [] 0 (adv p (r.take b))] 0 (0, 0)
  | err (r : List UInt8) (p : Int × Int) (b : Nat) (e : Int) (hb : Blank r b) (h : tokOf (r.drop b) = .inl e) : LexR r p [] e (adv p (r.take b))
  | tok (r : List UInt8) (p : Int × Int) (b : Nat) (t : Int × List UInt8 × Int) (ts : List S34) (e : Int) (q : Int × Int) (hb : Blank r b) (hne : r.drop b ≠ []) (h : tokOf (r.drop b) = .inr t)
      (hr : LexR ((r.drop b).drop t.2.1.length) (adv (adv p (r.take b)) t.2.1) ts e q) : LexR r p (tk t.1 t.2.1 t.2.2 (adv p (r.take b)) :: ts) e q
theorem tokOf_err {r : List UInt8} {e : Int} (h : tokOf r = .inl e) : e = 10 ∨ e = 11 := by
  cases r with
  | nil => cases h
  | cons x r =>
    rw [tokOf_cons] at h
    by_cases hl : letterB x = true
    · rw [if_pos hl] at h; cases h
    · rw [if_neg hl] at h
      by_cases hd : digitB x = true
      · rw [if_pos hd] at h
        cases hv : valL ((x :: r).takeWhile (runB false)) 0 with
        | some v => rw [hv] at h; cases h
        | none => rw [hv] at h; injection h with h; exact .inr h.symm
      · rw [if_neg hd] at h
        by_cases hf : firstOf markList (x :: r) = []
        · rw [if_pos hf] at h; injection h with h; exact .inl h.symm
        · rw [if_neg hf] at h; cases h
theorem LexR.ex : ∀ (n : Nat) (r : List UInt8) (p : Int × Int), r.length ≤ n → ∃ ts e q, LexR r p ts e q := by
  intro n
  induction n with
  | zero =>
    intro r p hr
    obtain rfl : r = [] := List.eq_nil_of_length_eq_zero (by omega)
    obtain ⟨b, hb⟩ := Blank.ex 0 [] (by simp)
    exact ⟨_, _, _, .stop _ p b hb (by simp)⟩
  | succ n ih =>
    intro r p hr
    obtain ⟨b, hb⟩ := Blank.ex r.length r (Nat.le_refl _)
    by_cases hne : r.drop b = []
    · exact ⟨_, _, _, .stop r p b hb hne⟩
    · cases ht : tokOf (r.drop b) with
      | inl e => exact ⟨_, _, _, .err r p b e hb ht⟩
      | inr t =>
        obtain ⟨h1, _, h3⟩ := tokOf_ne hne ht
        have hl := h3.length_le
        have h0 : 0 < t.2.1.length := List.length_pos_iff.mpr h1
        obtain ⟨ts, e, q, hr2⟩ := ih ((r.drop b).drop t.2.1.length) (adv (adv p (r.take b)) t.2.1) (by rw [List.length_drop, List.length_drop]; rw [List.length_drop] at hl; omega)
        exact ⟨_, _, _, .tok r p b t ts e q hb hne ht hr2⟩

theorem all_l0 (s : ByteArray) (hs : s.size ≤ 65536) (K : Nat) (hK : K = 3 * s.size + 10) {r : List UInt8} {p : Int × Int} {ts : List S34} {e : Int} {q : Int × Int} (h : LexR r p ts e q) :
    ∀ (i k : Nat) (acc : List S34), r = (By s).drop i → i ≤ s.size → PosOk i p → K + r.length + 1 ≤ k → acc.length ≤ i →
      lex_All.l0 k acc s i p.1 p.2 = some (if e = 0 then (acc ++ ts, 0, 0, 0) else ([], e, q.1, q.2)) := by
  have hnext : ∀ {r : List UInt8} {b : Nat} (hb : Blank r b) (i k : Nat) (p : Int × Int), r = (By s).drop i → i ≤ s.size → PosOk i p → K ≤ k → _ := fun hb i k p hr hi hp hk => next_eq s (by omega) hb i k p hr hi hp (by omega)
  induction h with
  | stop r p b hb h =>
    intro i k acc hr hi hp hk hacc
    obtain ⟨k, rfl⟩ : ∃ j, k = j + 1 := ⟨k - 1, by omega⟩
    unfold lex_All.l0
    rw [hnext hb i k p hr hi hp (by omega), h]
    simp only [tokOf, if_true]
    rw [Option.bind_some, if_pos rfl, if_pos (by omega), Option.bind_some, if_pos rfl]
    rfl
  | err r p b e hb h =>
    intro i k acc hr hi hp hk hacc
    obtain ⟨k, rfl⟩ : ∃ j, k = j + 1 := ⟨k - 1, by omega⟩
    have he : e ≠ 0 := by rcases tokOf_err h with h | h <;> omega
    unfold lex_All.l0
    rw [hnext hb i k p hr hi hp (by omega), h]
    simp only
    rw [Option.bind_some, if_neg he, if_neg he]
  | tok r p b t ts e q hb hne h hr2 ih =>
    intro i k acc hr hi hp hk hacc
    obtain ⟨k, rfl⟩ : ∃ j, k = j + 1 := ⟨k - 1, by omega⟩
    obtain ⟨h1, h2, h3⟩ := tokOf_ne hne h
    have hl := h3.length_le
    have h0 : 0 < t.2.1.length := List.length_pos_iff.mpr h1
    have hble := hb.le
    have hrl := congrArg List.length hr
    rw [List.length_drop, by_len] at hrl
    rw [List.length_drop] at hl
    have hd : (r.drop b).drop t.2.1.length = (By s).drop (i + b + t.2.1.length) := by rw [hr, List.drop_drop, List.drop_drop, Nat.add_assoc]
    have hpos : PosOk ((i + b + t.2.1.length : Nat) : Int) (adv (adv p (r.take b)) t.2.1) := by
      have h4 := (hp.adv (l := r.take b)).adv (l := t.2.1)
      rw [List.length_take, Nat.min_eq_left hble] at h4
      exact_mod_cast h4
    have hrec := ih (i + b + t.2.1.length) k (acc ++ [tk t.1 t.2.1 t.2.2 (adv p (r.take b))]) hd (by omega) hpos (by rw [List.length_drop, List.length_drop]; omega) (by rw [List.length_append, List.length_singleton]; omega)
    unfold lex_All.l0
    rw [hnext hb i k p hr hi hp (by omega), h]
    simp only
    rw [Option.bind_some, if_pos rfl, if_pos (by omega), Option.bind_some, if_neg h2]
    refine Eq.trans hrec ?_
    rw [List.append_assoc]
    rfl
/-- lex.All, in plain words. -/
theorem all_eq (s : ByteArray) (hs : s.size ≤ 65536) {ts : List S34} {e : Int} {q : Int × Int} (h : LexR (By s) (1, 1) ts e q) (k : Nat) (hk : 300000 ≤ k) :
    lex_All.f k s = some (if e = 0 then (ts, 0, 0, 0) else ([], e, q.1, q.2)) := by
  have h1 := all_l0 s hs _ rfl h 0 k [] rfl (by omega) ⟨by decide, by decide, by decide, by decide⟩ (by rw [by_len]; omega) (by simp)
  unfold lex_All.f
  rw [if_neg (by omega)]
  exact h1
theorem all_long (s : ByteArray) (hs : 65536 < s.size) (k : Nat) : lex_All.f k s = some ([], 14, 1, 1) := by
  unfold lex_All.f
  rw [if_pos (by omega)]

/-- The law's own example. -/
theorem tokOf_cons_letter (x : UInt8) (r : List UInt8) (h : letterB x = true) : tokOf (x :: r) = .inr (if (wordList.any fun y => y == (x :: r).takeWhile (runB true)) = true then 3 else 1, (x :: r).takeWhile (runB true), 0) := by
  rw [tokOf, if_pos h]
theorem lex_head : LexR [97, 60, 61, 49] (1, 1) [tk 1 [97] 0 (1, 1), tk 4 [60, 61] 0 (1, 2), tk 2 [49] 1 (1, 4), tk 0 [] 0 (1, 5)] 0 (0, 0) := by
  have st : ∀ (x : UInt8) (t : List UInt8), wsB x = false → remB (x :: t) = false → Blank (x :: t) 0 := fun x t h h2 => .stop _ (fun y u e => by injection e with e _; rw [← e]; exact h) h2
  have h1 := LexR.tok [97, 60, 61, 49] (1, 1) 0 (1, [97], 0)
  have h4 : LexR [] (1, 5) [tk 0 [] 0 (1, 5)] 0 (0, 0) := .stop [] (1, 5) 0 (.stop _ (fun x t h => by cases h) rfl) rfl
  have h3 : LexR [49] (1, 4) [tk 2 [49] 1 (1, 4), tk 0 [] 0 (1, 5)] 0 (0, 0) := .tok [49] (1, 4) 0 (2, [49], 1) _ _ _ (st _ _ rfl rfl) (by decide) (by decide +kernel) h4
  have h2 : LexR [60, 61, 49] (1, 2) [tk 4 [60, 61] 0 (1, 2), tk 2 [49] 1 (1, 4), tk 0 [] 0 (1, 5)] 0 (0, 0) := .tok [60, 61, 49] (1, 2) 0 (4, [60, 61], 0) _ _ _ (st _ _ rfl rfl) (by decide) (by decide +kernel) h3
  exact .tok [97, 60, 61, 49] (1, 1) 0 (1, [97], 0) _ _ _ (st _ _ rfl rfl) (by decide) (by decide +kernel) h2
theorem head_true (k : Nat) (hk : 300000 ≤ k) : palingslaw02_head.f k = some true := by
  unfold palingslaw02_head.f
  rw [all_eq ⟨#[97, 60, 61, 49]⟩ (by decide) lex_head k hk, if_pos rfl, Option.bind_some]
  simp [rd_T34, tk, ByteArray.toList_eq]
end Go.Proofs.YtfljigegjhnidaaDoor.B
