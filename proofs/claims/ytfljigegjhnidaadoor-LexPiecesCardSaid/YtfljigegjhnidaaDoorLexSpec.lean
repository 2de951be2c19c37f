/- What lexing answers, in plain words over a text's bytes: blanks, tokens, places; and that the program's functions answer so. -/
import Derived.Test.YtfljigegjhnidaaDoorAll
namespace Go.Proofs.YtfljigegjhnidaaDoor.B
open Go.RowKit Go.Proofs.YtfljigegjhnidaaDoorW.PrintWords Go.Proofs.YtfljigegjhnidaaDoorW.PrintLast Go.Proofs.YtfljigegjhnidaaDoorW.PrintMore
set_option linter.unusedVariables false
set_option linter.unusedSimpArgs false

/-- A place goes on by a byte, by bytes. -/
def adv1 (p : Int × Int) (x : UInt8) : Int × Int := if x = 10 then (p.1 + 1, 1) else (p.1, p.2 + 1)
def adv (p : Int × Int) (l : List UInt8) : Int × Int := l.foldl adv1 p
theorem adv_nil (p : Int × Int) : adv p [] = p := rfl
theorem adv_cons (p : Int × Int) (x : UInt8) (l : List UInt8) : adv p (x :: l) = adv (adv1 p x) l := rfl
theorem adv_append (p : Int × Int) (a b : List UInt8) : adv p (a ++ b) = adv (adv p a) b := by simp [adv, List.foldl_append]
/-- A place's bounds, n bytes behind the beginning. -/
def PosOk (n : Int) (p : Int × Int) : Prop := 1 ≤ p.1 ∧ 1 ≤ p.2 ∧ p.1 ≤ n + 1 ∧ p.2 ≤ n + 1
theorem PosOk.step {n : Int} {p : Int × Int} (h : PosOk n p) (x : UInt8) : PosOk (n + 1) (adv1 p x) := by
  obtain ⟨h1, h2, h3, h4⟩ := h
  unfold adv1 PosOk
  split <;> simp only <;> omega
theorem PosOk.adv : ∀ {l : List UInt8} {n : Int} {p : Int × Int}, PosOk n p → PosOk (n + l.length) (adv p l)
  | [], n, p, h => by simpa [adv_nil] using h
  | x :: l, n, p, h => by
    have := PosOk.adv (l := l) (h.step x)
    rw [adv_cons, List.length_cons]
    rwa [show n + ((l.length + 1 : Nat) : Int) = n + 1 + (l.length : Int) by omega]

abbrev By (s : ByteArray) : List UInt8 := s.data.toList
theorem by_len (s : ByteArray) : (By s).length = s.size := Array.length_toList
theorem bt_get (s : ByteArray) (i : Nat) (h : i < (By s).length) : bt s (i : Int) = (((By s)[i]).toNat : Int) := by
  have h' : i < s.size := by rw [← by_len]; exact h
  unfold bt
  rw [dif_pos (by simpa using h')]
  simp only [Int.toNat_natCast]
  rfl
theorem wrap_small {n : Int} (h0 : -9223372036854775808 ≤ n) (h1 : n ≤ 9223372036854775807) : wrap64 n = n := by unfold wrap64; omega
theorem byte10 (x : UInt8) : ((x.toNat : Int) = 10) ↔ x = 10 := by
  rw [← UInt8.toNat_inj]; show _ ↔ x.toNat = 10; omega

theorem skip_l0 (s : ByteArray) (hs : s.size ≤ 70000) : ∀ (m k n x i : Nat) (p : Int × Int), n = x + m → i + m ≤ s.size → m < k → PosOk i p → n ≤ 70000 →
    lex_lexer_skip.l0 k n x s i p.1 p.2 = some (s, ((i + m : Nat) : Int), (adv p (((By s).drop i).take m)).1, (adv p (((By s).drop i).take m)).2) := by
  intro m
  induction m with
  | zero =>
    intro k n x i p hn hi hk hp hb
    obtain ⟨k, rfl⟩ : ∃ j, k = j + 1 := ⟨k - 1, by omega⟩
    unfold lex_lexer_skip.l0
    rw [if_neg (by omega)]
    simp [adv_nil]
  | succ m ih =>
    intro k n x i p hn hi hk hp hb
    obtain ⟨k, rfl⟩ : ∃ j, k = j + 1 := ⟨k - 1, by omega⟩
    have hil : i < (By s).length := by rw [by_len]; omega
    obtain ⟨h1, h2, h3, h4⟩ := id hp
    unfold lex_lexer_skip.l0
    rw [if_pos (by omega), if_pos (by omega), if_pos (by omega), bt_get s i hil, wrap_small (n := (x : Int) + 1) (by omega) (by omega), wrap_small (n := (i : Int) + 1) (by omega) (by omega), wrap_small (n := p.1 + 1) (by omega) (by omega), wrap_small (n := p.2 + 1) (by omega) (by omega)]
    have e : ((By s).drop i).take (m + 1) = (By s)[i] :: (((By s).drop (i + 1)).take m) := by rw [List.drop_eq_getElem_cons hil, List.take_succ_cons]
    rw [e, adv_cons]
    have h := ih k n (x + 1) (i + 1) (adv1 p (By s)[i]) (by omega) (by omega) (by omega) (by have := hp.step (By s)[i]; exact_mod_cast this) hb
    rw [show ((i + (m + 1) : Nat) : Int) = ((i + 1 + m : Nat) : Int) by omega, ← h]
    clear h e
    generalize (By s)[i] = y
    by_cases hx : y = 10
    · rw [if_pos ((byte10 _).mpr hx)]
      simp [adv1, hx]
    · rw [if_neg (fun h => hx ((byte10 _).mp h))]
      simp [adv1, hx]
theorem skip_eq (s : ByteArray) (hs : s.size ≤ 70000) (k i m : Nat) (p : Int × Int) (hi : i + m ≤ s.size) (hk : m < k) (hp : PosOk i p) :
    lex_lexer_skip.f k s i p.1 p.2 m = some (s, ((i + m : Nat) : Int), (adv p (((By s).drop i).take m)).1, (adv p (((By s).drop i).take m)).2) :=
  skip_l0 s hs m k m 0 i p (by omega) hi hk hp (by omega)

/-! ### blanks -/
def wsB (x : UInt8) : Bool := x == 32 || x == 9 || x == 10 || x == 13
/-- How far a line goes. -/
def lineLen : List UInt8 → Nat
  | [] => 0
  | x :: r => if x = 10 then 0 else lineLen r + 1
theorem lineLen_le : ∀ l, lineLen l ≤ l.length
  | [] => Nat.le_refl _
  | x :: r => by
    unfold lineLen
    split
    · omega
    · have := lineLen_le r; simp only [List.length_cons]; omega
def remB (r : List UInt8) : Bool := [47, 47].isPrefixOf r
inductive Blank : List UInt8 → Nat → Prop
  | stop (r : List UInt8) (h : ∀ x t, r = x :: t → wsB x = false) (h2 : remB r = false) : Blank r 0
  | ws (x : UInt8) (r : List UInt8) (b : Nat) (h : wsB x = true) (hb : Blank r b) : Blank (x :: r) (b + 1)
  | rem (r : List UInt8) (b : Nat) (h : remB r = true) (hb : Blank (r.drop (lineLen r)) b) : Blank r (lineLen r + b)
theorem rem_shape {r : List UInt8} (h : remB r = true) : ∃ t, r = 47 :: 47 :: t := by
  obtain ⟨t, ht⟩ := List.isPrefixOf_iff_prefix.mp h
  exact ⟨t, ht.symm⟩
theorem rem_len {r : List UInt8} (h : remB r = true) : 2 ≤ lineLen r := by
  obtain ⟨t, rfl⟩ := rem_shape h
  simp [lineLen]
theorem Blank.le {r : List UInt8} {b : Nat} (h : Blank r b) : b ≤ r.length := by
  induction h with
  | stop => exact Nat.zero_le _
  | ws x r b h hb ih => simp only [List.length_cons]; omega
  | rem r b h hb ih => rw [List.length_drop] at ih; have := lineLen_le r; omega
theorem Blank.ex : ∀ (n : Nat) (r : List UInt8), r.length ≤ n → ∃ b, Blank r b := by
  intro n
  induction n with
  | zero =>
    intro r hr
    obtain rfl : r = [] := List.eq_nil_of_length_eq_zero (by omega)
    exact ⟨0, .stop _ (fun x t h => by cases h) rfl⟩
  | succ n ih =>
    intro r hr
    by_cases hrem : remB r = true
    · have := rem_len hrem
      obtain ⟨b, hb⟩ := ih (r.drop (lineLen r)) (by rw [List.length_drop]; omega)
      exact ⟨_, .rem r b hrem hb⟩
    · cases r with
      | nil => exact ⟨0, .stop _ (fun x t h => by cases h) rfl⟩
      | cons x t =>
        cases hw : wsB x with
        | true =>
          obtain ⟨b, hb⟩ := ih t (by simp only [List.length_cons] at hr; omega)
          exact ⟨_, .ws x t b hw hb⟩
        | false => exact ⟨0, .stop _ (fun y u h => by injection h with h1 _; rw [← h1]; exact hw) (by simpa using hrem)⟩
/-- Behind blanks neither a blank nor a remark stands. -/
theorem Blank.rest {r : List UInt8} {b : Nat} (h : Blank r b) : (∀ x t, r.drop b = x :: t → wsB x = false) ∧ remB (r.drop b) = false := by
  induction h with
  | stop r h h2 => exact ⟨h, h2⟩
  | ws x r b h hb ih => simpa using ih
  | rem r b h hb ih => rwa [List.drop_drop] at ih

theorem ext_toList (s : ByteArray) (a b : Nat) : (s.extract a b).toList = ((By s).drop a).take (b - a) := by rw [ByteArray.toList_eq, Lib.extract_data]
theorem ext_end (s : ByteArray) (i : Nat) : (s.extract i s.size).toList = (By s).drop i := by
  rw [ext_toList, List.take_of_length_le]
  rw [List.length_drop, by_len]
  exact Nat.le_refl _
theorem index_line : ∀ l : List UInt8, (Lib.indexByte l 10 < 0 → lineLen l = l.length) ∧ (¬ Lib.indexByte l 10 < 0 → Lib.indexByte l 10 = lineLen l)
  | [] => ⟨fun _ => rfl, fun h => absurd (by decide) h⟩
  | x :: l => by
    have ih := index_line l
    have hge := Lib.indexByte_ge l 10
    unfold Lib.indexByte lineLen
    by_cases hx : x = 10
    · subst hx
      simp
    · rw [if_neg (by simpa using hx), if_neg hx]
      by_cases hm : Lib.indexByte l 10 = -1
      · rw [hm, if_pos (by decide)]
        have := ih.1 (by omega)
        simp [this]
      · have h0 : ¬ Lib.indexByte l 10 < 0 := by omega
        rw [if_neg (by simpa using hm), ih.2 h0]
        exact ⟨fun h => absurd h (by omega), fun _ => by simp⟩
theorem lex_index (s : ByteArray) : strings_IndexByte.f s 10 = some (Lib.indexByte (By s) 10) := rfl
theorem ws_bt (s : ByteArray) (i : Nat) (x : UInt8) (t : List UInt8) (h : (By s).drop i = x :: t) : bt s i = (x.toNat : Int) ∧ i < s.size := by
  have hl : i < (By s).length := by
    rcases Nat.lt_or_ge i (By s).length with h1 | h1
    · exact h1
    · rw [List.drop_of_length_le h1] at h; cases h
  rw [List.drop_eq_getElem_cons hl] at h
  injection h with h1 _
  refine ⟨by rw [bt_get s i hl, h1], by rwa [by_len] at hl⟩
theorem b32 (x : UInt8) (n : Nat) (hn : n < 256) : ((x.toNat : Int) = n) ↔ x = UInt8.ofNat n := by
  have h : (UInt8.ofNat n).toNat = n := by rw [UInt8.toNat_ofNat']; exact Nat.mod_eq_of_lt hn
  rw [← UInt8.toNat_inj, h]; omega
theorem blank_l0 (s : ByteArray) (hs : s.size ≤ 70000) {r : List UInt8} {b : Nat} (h : Blank r b) : ∀ (i k : Nat) (p : Int × Int), r = (By s).drop i → i ≤ s.size → PosOk i p → r.length + 2 * b + 3 ≤ k →
    lex_lexer_blank.l0 k s i p.1 p.2 = some (s, ((i + b : Nat) : Int), (adv p (r.take b)).1, (adv p (r.take b)).2) := by
  induction h with
  | stop r h h2 =>
    intro i k p hr hi hp hk
    obtain ⟨k, rfl⟩ : ∃ j, k = j + 2 := ⟨k - 2, by omega⟩
    unfold lex_lexer_blank.l0
    cases r with
    | nil =>
      have hl := congrArg List.length hr
      rw [List.length_drop, by_len] at hl
      simp only [List.length_nil] at hl
      rw [if_neg (by omega)]
      simp [adv_nil]
    | cons x t =>
      obtain ⟨hb, hlt⟩ := ws_bt s i x t hr.symm
      have hw := h x t rfl
      simp only [wsB, Bool.or_eq_false_iff, beq_eq_false_iff_ne] at hw
      rw [if_pos (by omega), if_pos (by omega), hb, if_neg (by intro e; exact hw.1.1.1 ((b32 x 32 (by decide)).mp e)), if_neg (by intro e; exact hw.1.1.2 ((b32 x 9 (by decide)).mp e)), if_neg (by intro e; exact hw.1.2 ((b32 x 10 (by decide)).mp e)),
        show ((x.toNat : Int) == 13) = false from beq_eq_false_iff_ne.mpr (by intro e; exact hw.2 ((b32 x 13 (by decide)).mp e))]
      unfold lex_lexer_blank.j1
      rw [if_neg (by decide), if_pos (by omega), if_pos (by omega), show (⟨#[47, 47]⟩ : ByteArray) = ⟨([47, 47] : List UInt8).toArray⟩ from rfl, has_prefix, Int.toNat_natCast, ext_end, ← hr, show ([47, 47] : List UInt8).isPrefixOf (x :: t) = false from h2]
      simp [adv_nil]
  | ws x r b h hb ih =>
    intro i k p hr hi hp hk
    simp only [List.length_cons] at hk
    obtain ⟨k, rfl⟩ : ∃ j, k = j + 2 := ⟨k - 2, by omega⟩
    obtain ⟨hbt, hlt⟩ := ws_bt s i x r hr.symm
    have hdrop : r = (By s).drop (i + 1) := by rw [← List.tail_drop, ← hr]; rfl
    have htake : ((By s).drop i).take 1 = [x] := by rw [← hr]; rfl
    have hsk := skip_eq s hs k i 1 p (by omega) (by omega) hp
    rw [htake, adv_cons, adv_nil] at hsk
    have hj : lex_lexer_blank.j1 (k + 1) true s i p.1 p.2 = some (s, ((i + (b + 1) : Nat) : Int), (adv p ((x :: r).take (b + 1))).1, (adv p ((x :: r).take (b + 1))).2) := by
      unfold lex_lexer_blank.j1
      rw [if_pos rfl, show (1 : Int) = ((1 : Nat) : Int) from rfl, hsk]
      simp only [Option.bind_some]
      rw [ih (i + 1) k (adv1 p x) hdrop (by omega) (by have := hp.step x; exact_mod_cast this) (by omega), List.take_succ_cons, adv_cons, show i + 1 + b = i + (b + 1) by omega]
    unfold lex_lexer_blank.l0
    rw [if_pos (by omega), if_pos (by omega), hbt]
    simp only [wsB, Bool.or_eq_true, beq_iff_eq] at h
    by_cases h32 : (x.toNat : Int) = 32
    · rw [if_pos h32]; exact hj
    · rw [if_neg h32]
      by_cases h9 : (x.toNat : Int) = 9
      · rw [if_pos h9]; exact hj
      · rw [if_neg h9]
        by_cases h10 : (x.toNat : Int) = 10
        · rw [if_pos h10]; exact hj
        · rw [if_neg h10]
          have h13 : ((x.toNat : Int) == 13) = true := by
            rcases h with ((h | h) | h) | h
            · exact absurd ((b32 x 32 (by decide)).mpr h) h32
            · exact absurd ((b32 x 9 (by decide)).mpr h) h9
            · exact absurd ((b32 x 10 (by decide)).mpr h) h10
            · exact beq_iff_eq.mpr ((b32 x 13 (by decide)).mpr h)
          rw [h13]; exact hj
  | rem r b h hb ih =>
    intro i k p hr hi hp hk
    obtain ⟨t, ht⟩ := rem_shape h
    have hlen := rem_len h
    have hle := lineLen_le r
    have hrl := congrArg List.length hr
    rw [List.length_drop, by_len] at hrl
    obtain ⟨k, rfl⟩ : ∃ j, k = j + 2 := ⟨k - 2, by omega⟩
    obtain ⟨hbt, hlt⟩ := ws_bt s i 47 (47 :: t) (by rw [← hr, ht])
    have hdrop : r.drop (lineLen r) = (By s).drop (i + lineLen r) := by rw [hr, List.drop_drop]
    have hsk := skip_eq s hs k i (lineLen r) p (by omega) (by omega) hp
    rw [← hr] at hsk
    have hpos : PosOk ((i + lineLen r : Nat) : Int) (adv p (r.take (lineLen r))) := by
      have := hp.adv (l := r.take (lineLen r))
      rw [List.length_take, Nat.min_eq_left hle] at this
      exact_mod_cast this
    have hih := ih (i + lineLen r) k (adv p (r.take (lineLen r))) hdrop (by omega) hpos (by rw [List.length_drop]; omega)
    have hend : adv (adv p (r.take (lineLen r))) ((r.drop (lineLen r)).take b) = adv p (r.take (lineLen r + b)) := by rw [← adv_append, List.take_add]
    rw [hend, show i + lineLen r + b = i + (lineLen r + b) by omega] at hih
    unfold lex_lexer_blank.l0
    rw [if_pos (by omega), if_pos (by omega), hbt, if_neg (by decide), if_neg (by decide), if_neg (by decide), show (((47 : UInt8).toNat : Int) == 13) = false by decide]
    unfold lex_lexer_blank.j1
    rw [if_neg (by decide), if_pos (by omega), if_pos (by omega), show (⟨#[47, 47]⟩ : ByteArray) = ⟨([47, 47] : List UInt8).toArray⟩ from rfl, has_prefix, Int.toNat_natCast, ext_end, ← hr, show ([47, 47] : List UInt8).isPrefixOf r = true from h]
    simp only [Option.bind_some, if_true]
    rw [lex_index, show By (s.extract i s.size) = r by rw [hr, ← ext_end, ByteArray.toList_eq]]
    simp only [Option.bind_some]
    obtain ⟨hx1, hx2⟩ := index_line r
    by_cases hx : Lib.indexByte r 10 < 0
    · have hll := hx1 hx
      rw [if_pos hx, show wrap64 ((s.size : Int) - i) = (lineLen r : Int) by rw [wrap_small (by omega) (by omega)]; omega, hsk]
      simp only [Option.bind_some]
      exact hih
    · rw [if_neg hx, hx2 hx, hsk]
      simp only [Option.bind_some]
      exact hih
end Go.Proofs.YtfljigegjhnidaaDoor.B
