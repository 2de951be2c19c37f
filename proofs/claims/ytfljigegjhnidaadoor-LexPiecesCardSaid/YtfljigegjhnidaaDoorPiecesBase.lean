/- Small facts on digits, blanks and places, for the law of pieces. -/
import Derived.Test.YtfljigegjhnidaaDoorLexSpec3
import Derived.Test.YtfljigegjhnidaaDoorBx4
import Derived.Test.YtfljigegjhnidaaDoorStr
namespace Go.Proofs.YtfljigegjhnidaaDoor.B
open Go.RowKit Go.Proofs.YtfljigegjhnidaaDoorW.PrintWords Go.Proofs.YtfljigegjhnidaaDoorW.PrintLast Go.Proofs.YtfljigegjhnidaaDoorW.PrintMore
set_option linter.unusedVariables false
set_option linter.unusedSimpArgs false

theorem LexR.ws {x : UInt8} {r : List UInt8} {p : Int × Int} {ts : List S34} {e : Int} {q : Int × Int} (hw : wsB x = true) (h : LexR r (adv1 p x) ts e q) : LexR (x :: r) p ts e q := by
  cases h with
  | stop _ _ b hb h => exact .stop (x :: r) p (b + 1) (.ws x r b hw hb) (by simpa using h)
  | err _ _ b _ hb h => exact .err (x :: r) p (b + 1) e (.ws x r b hw hb) (by simpa using h)
  | tok _ _ b t ts _ _ hb hne h hr => exact .tok (x :: r) p (b + 1) t ts e q (.ws x r b hw hb) (by simpa using hne) (by simpa using h) hr
theorem by_append (a b : ByteArray) : By (a ++ b) = By a ++ By b := by simp [By]
def worth (l : List UInt8) (a : Nat) : Nat := l.foldl (fun a x => a * 10 + (x.toNat - 48)) a
theorem worth_cons (x : UInt8) (l : List UInt8) (a : Nat) : worth (x :: l) a = worth l (a * 10 + (x.toNat - 48)) := by unfold worth; rw [List.foldl_cons]
theorem worth_append (l m : List UInt8) (a : Nat) : worth (l ++ m) a = worth m (worth l a) := by simp [worth, List.foldl_append]
theorem worth_ge : ∀ (l : List UInt8) (a : Nat), a ≤ worth l a
  | [], a => Nat.le_refl _
  | x :: l, a => by rw [worth_cons]; have := worth_ge l (a * 10 + (x.toNat - 48)); omega
theorem digit_range {x : UInt8} (h : digitB x = true) : 48 ≤ x.toNat ∧ x.toNat ≤ 57 := by simpa [digitB] using h
theorem valL_worth : ∀ (l : List UInt8) (a : Nat), (∀ x ∈ l, digitB x = true) → a ≤ 9223372036854775807 → valL l (a : Int) = if worth l a ≤ 9223372036854775807 then some (worth l a : Int) else none
  | [], a, _, ha => by rw [show worth [] a = a from rfl, if_pos ha]; rfl
  | x :: l, a, h, ha => by
    obtain ⟨h1, h2⟩ := digit_range (h x (List.mem_cons_self ..))
    have hm : ((x.toNat : Int) - 48) % 256 = ((x.toNat - 48 : Nat) : Int) := by omega
    rw [valL, hm, worth_cons]
    by_cases hc : a * 10 + (x.toNat - 48) ≤ 9223372036854775807
    · rw [if_neg (by omega), show (a : Int) * 10 + ((x.toNat - 48 : Nat) : Int) = ((a * 10 + (x.toNat - 48) : Nat) : Int) by omega]
      exact valL_worth l _ (fun y hy => h y (List.mem_cons_of_mem _ hy)) hc
    · rw [if_pos (by omega), if_neg (by have := worth_ge l (a * 10 + (x.toNat - 48)); omega)]
theorem ofNat_dig (d : Nat) (h : d < 10) : (UInt8.ofNat (48 + d)).toNat = 48 + d := by rw [UInt8.toNat_ofNat']; omega
theorem worth_dec (u : Nat) : worth (Lib.decDigits u) 0 = u ∧ (∀ x ∈ Lib.decDigits u, digitB x = true) := by
  induction u using Nat.strongRecOn with
  | _ u ih =>
    rw [Lib.decDigits]
    by_cases h : u < 10
    · rw [dif_pos h]
      refine ⟨?_, fun x hx => ?_⟩
      · rw [worth_cons, ofNat_dig u h]; show 0 * 10 + (48 + u - 48) = u; omega
      · obtain rfl := List.mem_singleton.mp hx
        rw [digitB, ofNat_dig u h, decide_eq_true (by omega), decide_eq_true (by omega)]; rfl
    · rw [dif_neg h]
      obtain ⟨h1, h2⟩ := ih (u / 10) (by omega)
      refine ⟨?_, fun x hx => ?_⟩
      · rw [worth_append, h1, worth_cons, ofNat_dig _ (by omega)]; show u / 10 * 10 + (48 + u % 10 - 48) = u; omega
      · rcases List.mem_append.mp hx with hx | hx
        · exact h2 x hx
        · obtain rfl := List.mem_singleton.mp hx
          rw [digitB, ofNat_dig _ (by omega), decide_eq_true (by omega), decide_eq_true (by omega)]; rfl
theorem digit_not {x : UInt8} (h : digitB x = true) : letterB x = false ∧ wsB x = false ∧ x ≠ 47 := by
  obtain ⟨h1, h2⟩ := digit_range h
  have ne : ∀ y : UInt8, (y.toNat < 48 ∨ 57 < y.toNat) → (x == y) = false := fun y hy => beq_eq_false_iff_ne.mpr (fun e => by rw [e] at h1 h2; omega)
  refine ⟨?_, ?_, fun e => ?_⟩
  · rw [letterB, decide_eq_false (show ¬ 97 ≤ x.toNat by omega), decide_eq_false (show ¬ 65 ≤ x.toNat by omega), ne 95 (by decide)]; rfl
  · rw [wsB, ne 32 (by decide), ne 9 (by decide), ne 10 (by decide), ne 13 (by decide)]; rfl
  · rw [e] at h1; exact absurd h1 (by decide)
theorem place_l0 (s : ByteArray) (hs : s.size ≤ 70000) : ∀ (m k n i : Nat) (p : Int × Int), n = i + m → n ≤ s.size → m < k → PosOk i p →
    palingslaw02_place.l0 k s n i p.1 p.2 = some (adv p (((By s).drop i).take m)) := by
  intro m
  induction m with
  | zero =>
    intro k n i p hn hi hk hp
    obtain ⟨k, rfl⟩ : ∃ j, k = j + 1 := ⟨k - 1, by omega⟩
    unfold palingslaw02_place.l0
    rw [if_neg (by omega)]
    simp [adv_nil]
  | succ m ih =>
    intro k n i p hn hi hk hp
    obtain ⟨k, rfl⟩ : ∃ j, k = j + 1 := ⟨k - 1, by omega⟩
    have hil : i < (By s).length := by rw [by_len]; omega
    obtain ⟨h1, h2, h3, h4⟩ := id hp
    unfold palingslaw02_place.l0
    rw [if_pos (by omega), if_pos (by omega), if_pos (by omega), bt_get s i hil, wrap_small (n := (i : Int) + 1) (by omega) (by omega), wrap_small (n := p.1 + 1) (by omega) (by omega), wrap_small (n := p.2 + 1) (by omega) (by omega)]
    have e : ((By s).drop i).take (m + 1) = (By s)[i] :: (((By s).drop (i + 1)).take m) := by rw [List.drop_eq_getElem_cons hil, List.take_succ_cons]
    rw [e, adv_cons]
    have h := ih k n (i + 1) (adv1 p (By s)[i]) (by omega) (by omega) (by omega) (by have := hp.step (By s)[i]; exact_mod_cast this)
    rw [← h]
    clear h e
    generalize (By s)[i] = y
    by_cases hx : y = 10
    · rw [if_pos ((byte10 _).mpr hx)]
      simp [adv1, hx]
    · rw [if_neg (fun h => hx ((byte10 _).mp h))]
      simp [adv1, hx]
theorem place_eq (s : ByteArray) (hs : s.size ≤ 70000) (k n : Nat) (hn : n ≤ s.size) (hk : n < k) : palingslaw02_place.f k s n = some ((adv (1, 1) ((By s).take n)).1, (adv (1, 1) ((By s).take n)).2) := by
  unfold palingslaw02_place.f
  exact place_l0 s hs n k n 0 (1, 1) (by omega) hn hk ⟨by decide, by decide, by decide, by decide⟩
end Go.Proofs.YtfljigegjhnidaaDoor.B
