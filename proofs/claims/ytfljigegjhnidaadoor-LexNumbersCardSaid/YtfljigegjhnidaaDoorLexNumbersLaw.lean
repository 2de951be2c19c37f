/- Numbers as they are lexed: the law LexNumbers for every number and every count of noughts. -/
import Derived.Test.YtfljigegjhnidaaDoorLexNumbersW
import Derived.Test.YtfljigegjhnidaaDoorLexAgainLaw
namespace Go.Proofs.YtfljigegjhnidaaDoor.B
open Go.ChangeShapes Go.WideShapes Go.ChangeAt Go.RowKit Go.Proofs.YtfljigegjhnidaaDoorW.PrintWords Go.Proofs.YtfljigegjhnidaaDoorW.PrintLast Go.Proofs.YtfljigegjhnidaaDoorW.PrintMore
set_option linter.unusedVariables false
set_option linter.unusedSimpArgs false

/-- What a row of digits is worth. -/
def worth (l : List UInt8) (a : Nat) : Nat := l.foldl (fun a x => a * 10 + (x.toNat - 48)) a
theorem worth_cons (x : UInt8) (l : List UInt8) (a : Nat) : worth (x :: l) a = worth l (a * 10 + (x.toNat - 48)) := by unfold worth; rw [List.foldl_cons]
theorem worth_append (l m : List UInt8) (a : Nat) : worth (l ++ m) a = worth m (worth l a) := by simp [worth, List.foldl_append]
theorem worth_ge : ∀ (l : List UInt8) (a : Nat), a ≤ worth l a
  | [], a => Nat.le_refl _
  | x :: l, a => by rw [worth_cons]; have := worth_ge l (a * 10 + (x.toNat - 48)); omega
theorem digit_range {x : UInt8} (h : digitB x = true) : 48 ≤ x.toNat ∧ x.toNat ≤ 57 := by simpa [digitB] using h
theorem valL_worth : ∀ (l : List UInt8) (a : Nat), (∀ x ∈ l, digitB x = true) → a ≤ 9223372036854775807 → valL l (a : Int) = if worth l a ≤ 9223372036854775807 then some (worth l a : Int) else none
  | [], a, _, ha => by rw [show worth [] a = a from rfl, if_pos ha]; rfl
  | x :: l, a, h, ha => by
    obtain ⟨h1, h2⟩ := digit_range (h x (List.mem_cons_self ..))
    have hm : ((x.toNat : Int) - 48) % 256 = ((x.toNat - 48 : Nat) : Int) := by omega
    rw [valL, hm, worth_cons]
    by_cases hc : a * 10 + (x.toNat - 48) ≤ 9223372036854775807
    · rw [if_neg (by omega), show (a : Int) * 10 + ((x.toNat - 48 : Nat) : Int) = ((a * 10 + (x.toNat - 48) : Nat) : Int) by omega]
      exact valL_worth l _ (fun y hy => h y (List.mem_cons_of_mem _ hy)) hc
    · rw [if_pos (by omega), if_neg (by have := worth_ge l (a * 10 + (x.toNat - 48)); omega)]
theorem worth_noughts : ∀ (n a : Nat), worth (List.replicate n 48) a = a * 10 ^ n
  | 0, a => by simp [worth]
  | n + 1, a => by
    rw [List.replicate_succ, worth_cons, worth_noughts n, show (48 : UInt8).toNat - 48 = 0 from rfl, Nat.add_zero, Nat.pow_succ, Nat.mul_assoc, Nat.mul_comm 10]
theorem ofNat_dig (d : Nat) (h : d < 10) : (UInt8.ofNat (48 + d)).toNat = 48 + d := by rw [UInt8.toNat_ofNat']; omega
theorem worth_dec (u : Nat) : worth (Lib.decDigits u) 0 = u ∧ (∀ x ∈ Lib.decDigits u, digitB x = true) := by
  induction u using Nat.strongRecOn with
  | _ u ih =>
    rw [Lib.decDigits]
    by_cases h : u < 10
    · rw [dif_pos h]
      refine ⟨?_, fun x hx => ?_⟩
      · rw [worth_cons, ofNat_dig u h]; show 0 * 10 + (48 + u - 48) = u; omega
      · obtain rfl := List.mem_singleton.mp hx
        rw [digitB, ofNat_dig u h, decide_eq_true (by omega), decide_eq_true (by omega)]; rfl
    · rw [dif_neg h]
      obtain ⟨h1, h2⟩ := ih (u / 10) (by omega)
      refine ⟨?_, fun x hx => ?_⟩
      · rw [worth_append, h1, worth_cons, ofNat_dig _ (by omega)]; show u / 10 * 10 + (48 + u % 10 - 48) = u; omega
      · rcases List.mem_append.mp hx with hx | hx
        · exact h2 x hx
        · obtain rfl := List.mem_singleton.mp hx
          rw [digitB, ofNat_dig _ (by omega), decide_eq_true (by omega), decide_eq_true (by omega)]; rfl
theorem digit_not {x : UInt8} (h : digitB x = true) : letterB x = false ∧ wsB x = false ∧ x ≠ 47 := by
  obtain ⟨h1, h2⟩ := digit_range h
  have ne : ∀ y : UInt8, (y.toNat < 48 ∨ 57 < y.toNat) → (x == y) = false := fun y hy => beq_eq_false_iff_ne.mpr (fun e => by rw [e] at h1 h2; omega)
  refine ⟨?_, ?_, fun e => ?_⟩
  · rw [letterB, decide_eq_false (show ¬ 97 ≤ x.toNat by omega), decide_eq_false (show ¬ 65 ≤ x.toNat by omega), ne 95 (by decide)]; rfl
  · rw [wsB, ne 32 (by decide), ne 9 (by decide), ne 10 (by decide), ne 13 (by decide)]; rfl
  · rw [e] at h1; exact absurd h1 (by decide)
theorem takeWhile_all {p : UInt8 → Bool} : ∀ {l : List UInt8}, (∀ x ∈ l, p x = true) → l.takeWhile p = l
  | [], _ => rfl
  | x :: l, h => by rw [List.takeWhile_cons, if_pos (h x (List.mem_cons_self ..)), takeWhile_all fun y hy => h y (List.mem_cons_of_mem _ hy)]
theorem lex_digits (l : List UInt8) (p : Int × Int) (hne : l ≠ []) (h : ∀ x ∈ l, digitB x = true) :
    (worth l 0 ≤ 9223372036854775807 → LexR l p [tk 2 l (worth l 0) p, tk 0 [] 0 (adv p l)] 0 (0, 0)) ∧ (9223372036854775807 < worth l 0 → LexR l p [] 11 p) := by
  cases l with
  | nil => exact absurd rfl hne
  | cons x r =>
    obtain ⟨h1, h2, h3⟩ := digit_not (h x (List.mem_cons_self ..))
    have hb : Blank (x :: r) 0 := .stop _ (fun y t e => by injection e with e _; rw [← e]; exact h2) (by
      unfold remB
      cases hq : [47, 47].isPrefixOf (x :: r) with
      | false => rfl
      | true => obtain ⟨t, ht⟩ := rem_shape hq; injection ht with ht _; exact absurd ht h3)
    have htw : (x :: r).takeWhile (runB false) = x :: r := takeWhile_all fun y hy => by rw [runB, h y hy]; rfl
    have hv := valL_worth (x :: r) 0 h (by decide)
    have htok : tokOf (x :: r) = (match valL (x :: r) 0 with | some v => .inr (2, x :: r, v) | none => .inl 11) := by
      rw [tokOf_cons, if_neg (by rw [h1]; decide), if_pos (h x (List.mem_cons_self ..)), htw]
      cases valL (x :: r) 0 <;> rfl
    refine ⟨fun hw => ?_, fun hw => ?_⟩
    · rw [show ((0 : Nat) : Int) = 0 from rfl, if_pos hw] at hv
      rw [hv] at htok
      have hend : LexR [] (adv p (x :: r)) [tk 0 [] 0 (adv p (x :: r))] 0 (0, 0) := .stop [] _ 0 (.stop _ (fun x t h => by cases h) rfl) rfl
      have := LexR.tok (x :: r) p 0 (2, x :: r, (worth (x :: r) 0 : Int)) [tk 0 [] 0 (adv p (x :: r))] 0 (0, 0) hb (by simp) htok (by simpa [adv_nil] using hend)
      simpa [adv_nil] using this
    · rw [show ((0 : Nat) : Int) = 0 from rfl, if_neg (by omega)] at hv
      rw [hv] at htok
      exact LexR.err (x :: r) p 0 11 hb htok
theorem i64_and15 (n : Int) : Go.bits .and .i64 n 15 = n % 16 := by
  have h127 : (BitVec.ofInt 64 15).toNat = 2 ^ 4 - 1 := by decide
  have key : (BitVec.ofInt 64 n &&& BitVec.ofInt 64 15).toNat = (n % ((2 ^ 64 : Nat) : Int)).toNat % 2 ^ 4 := by
    rw [BitVec.toNat_and, BitVec.toNat_ofInt, h127, Nat.and_two_pow_sub_one_eq_mod]
  show IntKind.i64.wrap ((BitVec.ofInt 64 n &&& BitVec.ofInt 64 15).toNat : Nat) = n % 16
  rw [key, IntKind.wrap_i64]
  omega
def noughted (u n : Nat) : List UInt8 := List.replicate n 48 ++ Lib.decDigits u
theorem noughted_facts (u n : Nat) : noughted u n ≠ [] ∧ (∀ x ∈ noughted u n, digitB x = true) ∧ worth (noughted u n) 0 = u := by
  refine ⟨fun h => ?_, fun x hx => ?_, ?_⟩
  · have := congrArg List.length h
    rw [noughted, List.length_append, Lib.decDigits_length] at this
    have := Lib.nDigits_pos u
    simp at *
    omega
  · rcases List.mem_append.mp hx with hx | hx
    · rw [List.eq_of_mem_replicate hx]; rfl
    · exact (worth_dec u).2 x hx
  · rw [noughted, worth_append, worth_noughts, Nat.zero_mul, (worth_dec u).1]
theorem numbers_walk (c d : Int) (w : World) (hc : (Lit.int .u64 c).wf = true) (hd : (Lit.int .i64 d).wf = true) (hL : laidMetH Tryd.prog lexLaid5 w) :
    Calls Tryd.prog 7 #[.int .u64 c, .int .i64 d] w fun e w' => e = .returned (.bool true) ∧ Below w.heap.size w w' := by
  have h0 : 0 ≤ c ∧ c < 18446744073709551616 := by
    simp only [Lit.wf, IntKind.wrap, IntKind.bits, IntKind.signed, beq_iff_eq] at hc
    simp at hc
    rw [show IntKind.u64.min = 0 from by decide, show IntKind.u64.max = 18446744073709551615 from by decide] at hc
    omega
  obtain ⟨u, rfl⟩ : ∃ u : Nat, c = (u : Int) := ⟨c.toNat, by omega⟩
  obtain ⟨hG, hP⟩ := of_laid5 hL
  obtain ⟨N, hN⟩ : ∃ N : Nat, N = (d % 16).toNat := ⟨_, rfl⟩
  have hlen : ∀ n, n ≤ N → (noughted u n).length ≤ 40 := fun n hn => by
    rw [noughted, List.length_append, List.length_replicate, Lib.decDigits_length]
    have : Lib.nDigits u ≤ 20 := by
      by_cases h1 : 1 ≤ u
      · have := Lib.numDigits_eq u h1 (by omega); split at this <;> omega
      · rw [Lib.nDigits_small (by omega)]; decide
    omega
  have hsz : ∀ n, n ≤ N → (⟨(noughted u n).toArray⟩ : ByteArray).size ≤ 40 := fun n hn => by
    rw [← by_len]
    exact hlen n hn
  obtain ⟨f1, f2, f3⟩ := noughted_facts u N
  have b1 : By ((⟨#[32]⟩ : ByteArray) ++ ⟨(noughted u N).toArray⟩) = 32 :: noughted u N := by rw [by_append]; rfl
  have b2 : By ((⟨(noughted u N).toArray⟩ : ByteArray) ++ (⟨#[48, 48, 48, 48, 48, 48, 48, 48, 48, 48, 48, 48, 48, 48, 48, 48, 48, 48, 48]⟩ : ByteArray)) = noughted u N ++ List.replicate 19 48 := by rw [by_append]; rfl
  have s1 : ((⟨#[32]⟩ : ByteArray) ++ ⟨(noughted u N).toArray⟩).size ≤ 65536 := by rw [← by_len, b1, List.length_cons]; have := hlen N (Nat.le_refl _); omega
  have s2 : ((⟨(noughted u N).toArray⟩ : ByteArray) ++ (⟨#[48, 48, 48, 48, 48, 48, 48, 48, 48, 48, 48, 48, 48, 48, 48, 48, 48, 48, 48]⟩ : ByteArray)).size ≤ 65536 := by rw [← by_len, b2, List.length_append, List.length_replicate]; have := hlen N (Nat.le_refl _); omega
  have g1 : noughted u N ++ List.replicate 19 48 ≠ [] := by simp [f1]
  have g2 : ∀ x ∈ noughted u N ++ List.replicate 19 48, digitB x = true := fun x hx => by
    rcases List.mem_append.mp hx with hx | hx
    · exact f2 x hx
    · rw [List.eq_of_mem_replicate hx]; rfl
  have g3 : worth (noughted u N ++ List.replicate 19 48) 0 = u * 10 ^ 19 := by rw [worth_append, f3, worth_noughts]
  have hw1 : ∀ {ts : List S34} {e : Int} {q : Int × Int}, LexR (noughted u N) (1, 2) ts e q → LexR (By ((⟨#[32]⟩ : ByteArray) ++ ⟨(noughted u N).toArray⟩)) (1, 1) ts e q := fun h => by rw [b1]; exact LexR.ws rfl h
  have hT1 : ∀ n, (⟨#[48]⟩ : ByteArray) ++ ⟨(noughted u n).toArray⟩ = ⟨(noughted u (n + 1)).toArray⟩ := fun n => by
    refine arr_of ?_
    rw [by_append, noughted, noughted, List.replicate_succ, List.cons_append]
    rfl
  have hbig : u ≠ 0 → 9223372036854775807 < u * 10 ^ 19 := fun h => by
    rw [show (10 : Nat) ^ 19 = 10000000000000000000 from by decide]
    omega
  have key : ∃ ts2 e2 l2 c2, lex_All.f 300000 ((⟨(noughted u N).toArray⟩ : ByteArray) ++ (⟨#[48, 48, 48, 48, 48, 48, 48, 48, 48, 48, 48, 48, 48, 48, 48, 48, 48, 48, 48]⟩ : ByteArray)) = some (ts2, e2, l2, c2) ∧ ((u = 0 ∧ e2 = 0) ∨ (u ≠ 0 ∧ e2 = 11 ∧ ts2 = [])) := by
    by_cases hu0 : u = 0
    · have := all_eq _ s2 (by rw [b2]; exact (lex_digits _ (1, 1) g1 g2).1 (by rw [g3, hu0]; decide)) 300000 (Nat.le_refl _)
      rw [if_pos rfl] at this
      exact ⟨_, _, _, _, this, .inl ⟨hu0, rfl⟩⟩
    · have := all_eq _ s2 (by rw [b2]; exact (lex_digits _ (1, 1) g1 g2).2 (by rw [g3]; exact hbig hu0)) 300000 (Nat.le_refl _)
      rw [if_neg (by decide)] at this
      exact ⟨_, _, _, _, this, .inr ⟨hu0, rfl, rfl⟩⟩
  obtain ⟨ts2, e2, l2, c2, hall2, hc2⟩ := key
  have hNb : Go.bits .and .i64 d 15 = (N : Int) := by rw [i64_and15]; omega
  by_cases hu : u ≤ 9223372036854775807
  · have ha := all_eq _ s1 (hw1 ((lex_digits _ (1, 2) f1 f2).1 (by rw [f3]; exact hu))) 300000 (Nat.le_refl _)
    rw [if_pos rfl, f3] at ha
    exact numbers_walk0 u d N (fun n => ⟨(noughted u n).toArray⟩) w hG hP (by omega) rfl hT1 300000 (Nat.le_refl _) hNb (by omega) hsz _ 0 0 0 ha ts2 e2 l2 c2 hall2 (.inr ⟨hu, rfl, rfl, rfl, ⟨_, _, rfl⟩, hc2⟩)
  · have ha := all_eq _ s1 (hw1 ((lex_digits _ (1, 2) f1 f2).2 (by rw [f3]; omega))) 300000 (Nat.le_refl _)
    rw [if_neg (by decide)] at ha
    exact numbers_walk0 u d N (fun n => ⟨(noughted u n).toArray⟩) w hG hP (by omega) rfl hT1 300000 (Nat.le_refl _) hNb (by omega) hsz _ 11 1 2 ha ts2 e2 l2 c2 hall2 (.inl ⟨by omega, rfl, rfl, rfl, rfl⟩)
end Go.Proofs.YtfljigegjhnidaaDoor.B
