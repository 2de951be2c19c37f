/- What one token is, in plain words over a text's bytes; and that the program's next answers so. -/
import Derived.Test.YtfljigegjhnidaaDoorLexSpec
namespace Go.Proofs.YtfljigegjhnidaaDoor.B
open Go.RowKit Go.Proofs.YtfljigegjhnidaaDoorW.PrintWords Go.Proofs.YtfljigegjhnidaaDoorW.PrintLast Go.Proofs.YtfljigegjhnidaaDoorW.PrintMore
set_option linter.unusedVariables false
set_option linter.unusedSimpArgs false

def letterB (x : UInt8) : Bool := (decide (97 ≤ x.toNat) && decide (x.toNat ≤ 122)) || (decide (65 ≤ x.toNat) && decide (x.toNat ≤ 90)) || x == 95
def digitB (x : UInt8) : Bool := decide (48 ≤ x.toNat) && decide (x.toNat ≤ 57)
theorem letter_eq (x : UInt8) : lex_letter.f (x.toNat : Int) = some (letterB x) := by
  have h95 : ((x.toNat : Int) == 95) = (x == 95) := by
    rw [Bool.eq_iff_iff, beq_iff_eq, beq_iff_eq]; exact b32 x 95 (by decide)
  unfold lex_letter.f letterB
  rw [h95]
  by_cases h1 : 97 ≤ x.toNat <;> by_cases h2 : x.toNat ≤ 122 <;> by_cases h3 : 65 ≤ x.toNat <;> by_cases h4 : x.toNat ≤ 90 <;>
    simp only [ge_iff_le, show ((97 : Int) ≤ (x.toNat : Int)) ↔ 97 ≤ x.toNat by omega, show ((x.toNat : Int) ≤ 122) ↔ x.toNat ≤ 122 by omega, show ((65 : Int) ≤ (x.toNat : Int)) ↔ 65 ≤ x.toNat by omega, show ((x.toNat : Int) ≤ 90) ↔ x.toNat ≤ 90 by omega, h1, h2, h3, h4, if_true, if_false, decide_true, decide_false, Bool.true_and, Bool.false_and, Bool.and_false, Bool.and_true, Bool.true_or, Bool.false_or, Bool.or_true] <;> first | rfl | omega
theorem digit_eq (x : UInt8) : lex_digit.f (x.toNat : Int) = some (digitB x) := by
  unfold lex_digit.f digitB
  by_cases h1 : 48 ≤ x.toNat
  · rw [if_pos (by omega), show decide ((x.toNat : Int) ≤ 57) = decide (x.toNat ≤ 57) from decide_eq_decide.mpr (by omega), decide_eq_true h1, Bool.true_and]
  · rw [if_neg (by omega), decide_eq_false h1, Bool.false_and]
def runB (nm : Bool) (x : UInt8) : Bool := digitB x || (nm && letterB x)

theorem run_l0 (s : ByteArray) (hs : s.size ≤ 70000) (nm : Bool) (i : Nat) (l c : Int) : ∀ (t : List UInt8) (n k : Nat), t = (By s).drop (i + n) → i + n ≤ s.size → t.length < k →
    lex_lexer_run.l0 k nm n s i l c = some (((n + (t.takeWhile (runB nm)).length : Nat) : Int), s, (i : Int), l, c) := by
  intro t
  induction t with
  | nil =>
    intro n k ht hi hk
    obtain ⟨k, rfl⟩ : ∃ j, k = j + 1 := ⟨k - 1, by simp only [List.length_nil] at hk; omega⟩
    have hl := congrArg List.length ht
    rw [List.length_drop, by_len] at hl
    simp only [List.length_nil] at hl
    unfold lex_lexer_run.l0
    rw [wrap_small (by omega) (by omega), if_neg (by omega)]
    simp
  | cons x t ih =>
    intro n k ht hi hk
    simp only [List.length_cons] at hk
    obtain ⟨k, rfl⟩ : ∃ j, k = j + 1 := ⟨k - 1, by omega⟩
    obtain ⟨hb, hlt⟩ := ws_bt s (i + n) x t ht.symm
    have hdrop : t = (By s).drop (i + (n + 1)) := by rw [← Nat.add_assoc, ← List.tail_drop, ← ht]; rfl
    have hrec := ih (n + 1) k hdrop (by omega) (by omega)
    unfold lex_lexer_run.l0
    rw [wrap_small (n := (i : Int) + n) (by omega) (by omega), if_pos (by omega), if_pos (by omega), show ((i : Int) + (n : Int)) = ((i + n : Nat) : Int) by omega, hb, digit_eq]
    simp only [Option.bind_some]
    rw [wrap_small (n := (n : Int) + 1) (by omega) (by omega), show ((n : Int) + 1) = ((n + 1 : Nat) : Int) by omega, hrec]
    cases hd : digitB x with
    | true =>
      rw [if_pos rfl, List.takeWhile_cons, if_pos (by simp [runB, hd]), List.length_cons, show n + 1 + (t.takeWhile (runB nm)).length = n + ((t.takeWhile (runB nm)).length + 1) by omega]
    | false =>
      rw [if_neg (by decide)]
      cases nm with
      | false => rw [if_neg (by decide), List.takeWhile_cons, if_neg (by simp [runB, hd])]; simp
      | true =>
        rw [if_pos rfl, letter_eq]
        simp only [Option.bind_some]
        cases hl : letterB x with
        | true => rw [if_pos rfl, List.takeWhile_cons, if_pos (by simp [runB, hd, hl]), List.length_cons, show n + 1 + (t.takeWhile (runB true)).length = n + ((t.takeWhile (runB true)).length + 1) by omega]
        | false => rw [if_neg (by decide), List.takeWhile_cons, if_neg (by simp [runB, hd, hl])]; simp
theorem run_eq (s : ByteArray) (hs : s.size ≤ 70000) (nm : Bool) (i k : Nat) (l c : Int) (hi : i ≤ s.size) (hk : s.size < k) :
    lex_lexer_run.f k s i l c nm = some (((((By s).drop i).takeWhile (runB nm)).length : Int), s, (i : Int), l, c) := by
  have h := run_l0 s hs nm i l c ((By s).drop i) 0 k rfl hi (by rw [List.length_drop, by_len]; omega)
  rw [Nat.zero_add] at h
  exact h

/-- A number's value, or none where it is too great. -/
def valL : List UInt8 → Int → Option Int
  | [], n => some n
  | x :: r, n => if n > (9223372036854775807 - ((x.toNat : Int) - 48) % 256) / 10 then none else valL r (n * 10 + ((x.toNat : Int) - 48) % 256)
theorem valL_nonneg : ∀ (t : List UInt8) (n v : Int), 0 ≤ n → valL t n = some v → 0 ≤ v
  | [], n, v, h0, h => by simp only [valL, Option.some.injEq] at h; omega
  | x :: r, n, v, h0, h => by
    simp only [valL] at h
    split at h
    · cases h
    · exact valL_nonneg r _ v (by omega) h
theorem value_l0 (s : ByteArray) (hs : s.size ≤ 70000) : ∀ (t : List UInt8) (j k : Nat) (n : Int), t = (By s).drop j → j ≤ s.size → t.length < k → 0 ≤ n → n ≤ 9223372036854775807 →
    lex_value.l0 k s n s.size j = some (match valL t n with | some v => (v, true) | none => (0, false)) := by
  intro t
  induction t with
  | nil =>
    intro j k n ht hj hk h0 h1
    obtain ⟨k, rfl⟩ : ∃ j, k = j + 1 := ⟨k - 1, by simp only [List.length_nil] at hk; omega⟩
    have hl := congrArg List.length ht
    rw [List.length_drop, by_len] at hl
    simp only [List.length_nil] at hl
    unfold lex_value.l0 valL
    rw [if_neg (by omega)]
  | cons x t ih =>
    intro j k n ht hj hk h0 h1
    simp only [List.length_cons] at hk
    obtain ⟨k, rfl⟩ : ∃ j, k = j + 1 := ⟨k - 1, by omega⟩
    obtain ⟨hb, hlt⟩ := ws_bt s j x t ht.symm
    have hdrop : t = (By s).drop (j + 1) := by rw [← List.tail_drop, ← ht]; rfl
    have hx := x.toNat_lt
    unfold lex_value.l0 valL
    rw [if_pos (by omega), if_pos (by omega), if_pos (by omega), hb]
    by_cases hbig : n > (9223372036854775807 - ((x.toNat : Int) - 48) % 256) / 10
    · rw [if_pos hbig, if_pos hbig]
    · rw [if_neg hbig, if_neg hbig, wrap_small (n := n * 10) (by omega) (by omega), wrap_small (n := n * 10 + ((x.toNat : Int) - 48) % 256) (by omega) (by omega), wrap_small (n := (j : Int) + 1) (by omega) (by omega), show ((j : Int) + 1) = ((j + 1 : Nat) : Int) by omega]
      exact ih (j + 1) k _ hdrop (by omega) (by omega) (by omega) (by omega)
theorem value_eq (s : ByteArray) (hs : s.size ≤ 70000) (k : Nat) (hk : s.size < k) : lex_value.f k s = some (match valL (By s) 0 with | some v => (v, true) | none => (0, false)) := by
  unfold lex_value.f
  exact value_l0 s hs (By s) 0 k 0 rfl (by omega) (by rw [by_len]; omega) (by omega) (by omega)

/-- What stands at a text's head: why it is no token, or its kind, its text, its number. -/
def tokOf : List UInt8 → Sum Int (Int × List UInt8 × Int)
  | [] => .inr (0, [], 0)
  | x :: r =>
    if letterB x = true then .inr (if (wordList.any fun y => y == (x :: r).takeWhile (runB true)) = true then 3 else 1, (x :: r).takeWhile (runB true), 0)
    else if digitB x = true then (match valL ((x :: r).takeWhile (runB false)) 0 with | some v => .inr (2, (x :: r).takeWhile (runB false), v) | none => .inl 11)
    else if firstOf markList (x :: r) = [] then .inl 10 else .inr (4, firstOf markList (x :: r), 0)
theorem firstOf_prefix (l : List (List UInt8)) (y : List UInt8) : firstOf l y <+: y := by
  unfold firstOf
  split
  · next m h => exact List.isPrefixOf_iff_prefix.mp (by simpa using List.find?_some h)
  · exact List.nil_prefix
theorem takeWhile_take (p : UInt8 → Bool) : ∀ l : List UInt8, l.take (l.takeWhile p).length = l.takeWhile p
  | [] => rfl
  | x :: l => by
    rw [List.takeWhile_cons]
    split
    · rw [List.length_cons, List.take_succ_cons, takeWhile_take p l]
    · rfl
theorem arr_of {s : ByteArray} {l : List UInt8} (h : By s = l) : s = ⟨l.toArray⟩ := by
  obtain ⟨⟨d⟩⟩ := s
  have h' : d = l := h
  subst h'
  rfl
theorem size_of_list (l : List UInt8) : (⟨l.toArray⟩ : ByteArray).size = l.length := by simp [ByteArray.size]
theorem tokAt_eq (s : ByteArray) (hs : s.size ≤ 70000) (k i : Nat) (p : Int × Int) (kd num : Int) (tx : List UInt8) (hi : i ≤ s.size) (hp : PosOk i p) (ht : tx <+: (By s).drop i) (hk : s.size < k) :
    tokAt k s i p.1 p.2 kd ⟨tx.toArray⟩ num = some (kd, ⟨tx.toArray⟩, num, p.1, p.2, 0, s, ((i + tx.length : Nat) : Int), (adv p tx).1, (adv p tx).2) := by
  have hlen := ht.length_le
  rw [List.length_drop, by_len] at hlen
  unfold tokAt
  rw [size_of_list, skip_eq s hs k i tx.length p (by omega) (by omega) hp, ← List.prefix_iff_eq_take.mp ht]
  rfl
theorem len_w (a b S : Nat) (hS : S ≤ 70000) (h : b ≤ S - a) (ha : a ≤ S) : wrap64 ((a : Int) + (b : Int)) = ((a + b : Nat) : Int) ∧ a + b ≤ S := by
  refine ⟨?_, by omega⟩
  rw [wrap_small (n := (a : Int) + (b : Int)) (by omega) (by omega)]
  omega
theorem piece_eq (s : ByteArray) (hs : s.size ≤ 70000) (j : Nat) (r1 : List UInt8) (hr1 : r1 = (By s).drop j) (hjs : j ≤ s.size) (p : UInt8 → Bool) :
    s.extract j (j + (r1.takeWhile p).length) = ⟨(r1.takeWhile p).toArray⟩ ∧ wrap64 ((j : Int) + ((r1.takeWhile p).length : Int)) = ((j + (r1.takeWhile p).length : Nat) : Int) ∧ j + (r1.takeWhile p).length ≤ s.size := by
  have hle : (r1.takeWhile p).length ≤ s.size - j := by
    have h1 := (List.takeWhile_prefix (p := p) (l := r1)).length_le
    have h2 := congrArg List.length hr1
    rw [List.length_drop, by_len] at h2
    exact Nat.le_trans h1 (Nat.le_of_eq h2)
  obtain ⟨h3, h4⟩ := len_w j _ s.size hs hle hjs
  refine ⟨arr_of ?_, h3, h4⟩
  refine (Lib.extract_data s j _).trans ?_
  rw [Nat.add_sub_cancel_left, ← show r1 = s.data.toList.drop j from hr1, takeWhile_take]
theorem next_eq (s : ByteArray) (hs : s.size ≤ 70000) {r : List UInt8} {b : Nat} (hb : Blank r b) (i k : Nat) (p : Int × Int) (hr : r = (By s).drop i) (hi : i ≤ s.size) (hp : PosOk i p) (hk : 3 * s.size + 10 ≤ k) :
    lex_lexer_next.f k s i p.1 p.2 = (match tokOf (r.drop b) with
      | .inl e => some (0, (⟨#[]⟩ : ByteArray), 0, 0, 0, e, s, ((i + b : Nat) : Int), (adv p (r.take b)).1, (adv p (r.take b)).2)
      | .inr t => some (t.1, ⟨t.2.1.toArray⟩, t.2.2, (adv p (r.take b)).1, (adv p (r.take b)).2, 0, s, ((i + b + t.2.1.length : Nat) : Int), (adv (adv p (r.take b)) t.2.1).1, (adv (adv p (r.take b)) t.2.1).2)) := by
  have hble := hb.le
  have hrl := congrArg List.length hr
  rw [List.length_drop, by_len] at hrl
  have hpos : PosOk ((i + b : Nat) : Int) (adv p (r.take b)) := by
    have := hp.adv (l := r.take b)
    rw [List.length_take, Nat.min_eq_left hble] at this
    exact_mod_cast this
  have hr1 : r.drop b = (By s).drop (i + b) := by rw [hr, List.drop_drop]
  unfold lex_lexer_next.f lex_lexer_blank.f
  rw [blank_l0 s hs hb i k p hr hi hp (by omega)]
  simp only [Option.bind_some]
  generalize hq : adv p (r.take b) = q at *
  generalize hj : i + b = j at *
  have hjs : j ≤ s.size := by omega
  generalize r.drop b = r1 at *
  unfold nextAt
  cases r1 with
  | nil =>
    have hl := congrArg List.length hr1
    rw [List.length_drop, by_len] at hl
    simp only [List.length_nil] at hl
    rw [if_pos (by omega)]
    simp [tokOf, adv_nil]
  | cons x t =>
    obtain ⟨hbt, hlt⟩ := ws_bt s j x t hr1.symm
    have hsub := fun nm => piece_eq s hs j (x :: t) hr1 hjs (runB nm)
    rw [if_neg (by omega), if_pos (by omega), if_pos (by omega), hbt, letter_eq, digit_eq]
    simp only [Option.bind_some, tokOf, Int.toNat_natCast]
    cases hlet : letterB x with
    | true =>
      obtain ⟨h1, h2, h3⟩ := hsub true
      rw [if_pos rfl, if_pos rfl, run_eq s hs true j k _ _ hjs (by omega), ← hr1]
      rw [Option.bind_some, h2]
      simp -implicitDefEqProofs only [Int.toNat_natCast, h1]
      rw [if_pos (by omega), if_pos (by omega), tokAt_eq s hs k j q _ _ _ hjs hpos (by rw [← hr1]; exact List.takeWhile_prefix _) (by omega)]
      simp only [isWord, ByteArray.toList_eq]
    | false =>
      simp only [Bool.false_eq_true, if_false]
      cases hdig : digitB x with
      | true =>
        obtain ⟨h1, h2, h3⟩ := hsub false
        rw [if_pos rfl, if_pos rfl, run_eq s hs false j k _ _ hjs (by omega), ← hr1]
        rw [Option.bind_some, h2]
        simp -implicitDefEqProofs only [Int.toNat_natCast, h1]
        rw [if_pos (by omega), if_pos (by omega), value_eq _ (by rw [size_of_list]; omega) k (by rw [size_of_list]; omega)]
        simp only [Option.bind_some]
        cases hv : valL ((x :: t).takeWhile (runB false)) 0 with
        | none => simp
        | some v =>
          simp only [if_true]
          rw [tokAt_eq s hs k j q _ _ _ hjs hpos (by rw [← hr1]; exact List.takeWhile_prefix _) (by omega)]
      | false =>
        simp only [Bool.false_eq_true, if_false]
        have hm : markOf (s.extract j s.size) = ⟨(firstOf markList (x :: t)).toArray⟩ := by unfold markOf; rw [ext_end, ← hr1]
        rw [hm, ByteArray.toList_eq]
        by_cases hf : firstOf markList (x :: t) = []
        · rw [if_pos hf, if_pos hf]
        · rw [if_neg hf, if_neg hf, tokAt_eq s hs k j q _ _ _ hjs hpos (by rw [← hr1]; exact firstOf_prefix _ _) (by omega)]
end Go.Proofs.YtfljigegjhnidaaDoor.B
