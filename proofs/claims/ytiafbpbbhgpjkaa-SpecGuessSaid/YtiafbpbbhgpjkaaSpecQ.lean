/- The machine that runs ahead, in plain words, second part: honest deeds; and how it comes to its end. -/
import Derived.Test.YtiafbpbbhgpjkaaSpecP
namespace Go.Proofs.Ytiafbpbbhgpjkaa.B
open Go.RowKit Go.Proofs.Ytiafbpbbhgpjkaa.Mine Go.Proofs.Ytiafbpbbhgpjkaa.Sep Go.Proofs.YtiafbpbbhgpjkaaW.PrintWords Go.Proofs.YtiafbpbbhgpjkaaW.PrintLast Go.Proofs.YtiafbpbbhgpjkaaW.PrintMore
set_option linter.unusedVariables false
set_option linter.unusedSimpArgs false
section
variable {code : List S48} {p : St × List Int} {N : Nat} {X : SM}
/-- Where nothing is guessed the next instruction as it is does what layer 19 does. -/
structure Plain (code : List S48) (X : SM) (R : SM × List S60) : Prop where
  sv : R.1.saved = none
  s : R.1.s = (stepF wF code X.s (wrs X.mem X.buf)).1
  o : R.2 = (stepF wF code X.s (wrs X.mem X.buf)).2.2
  m : wrs R.1.mem R.1.buf = (stepF wF code X.s (wrs X.mem X.buf)).2.1
theorem honest_none (h : Inv code p N X) (hs : X.saved = none) : Plain code X (honestF code X) := by
  obtain ⟨h1, h2, h3⟩ := stepped_wrun h hs
  have hk : (steppedF false code X).saved = none := hs
  have hi : ¬ (steppedF false code X).saved.isSome = true := by rw [hk]; decide
  have hm : (steppedF false code X).mem = X.mem := rfl
  have key : ∀ k, Plain code X (commitF k (steppedF false code X), stepOut false code X) := fun k => by
    obtain ⟨c1, c2, _⟩ := cmt_keeps k (steppedF false code X).mem (steppedF false code X).buf
    exact ⟨hk, h1.symm, h3.symm, by
      show wrs (cmt k (steppedF false code X).mem (steppedF false code X).buf).1 (cmt k (steppedF false code X).mem (steppedF false code X).buf).2 = _
      rw [c2, hm, h2]⟩
  unfold honestF honestT
  rw [if_neg hi, if_neg hi]
  split
  · exact key 0
  · exact key 8
theorem commit_plain (hs : X.saved = none) {R : SM × List S60} (h : Plain code (commitF 0 X) R) : Plain code X R := by
  obtain ⟨c1, c2, _⟩ := cmt_keeps 0 X.mem X.buf
  have e : wrs (commitF 0 X).mem (commitF 0 X).buf = wrs X.mem X.buf := c2
  have es : (commitF 0 X).s = X.s := rfl
  obtain ⟨a, b, c, d⟩ := h
  rw [e, es] at b c d
  exact ⟨a, b, c, d⟩
theorem doM_plain (h : Inv code p N X) (hs : X.saved = none) (sites : List Int) (win d tq : Int) (h1 : ¬ (d = 1 ∧ 0 ≤ X.s.pc ∧ X.s.pc < (code.length : Int) ∧ ((rd_T48 code X.s.pc).f0 = 7 ∨ (rd_T48 code X.s.pc).f0 = 9))) (h2 : ¬ (d = 2 ∧ 0 ≤ X.s.pc ∧ X.s.pc < (code.length : Int) ∧ (rd_T48 code X.s.pc).f0 = 4)) : Plain code X (doM code sites win X d tq) := by
  have hi : ¬ X.saved.isSome = true := by rw [hs]; decide
  unfold doM
  cases he : X.s.ended with
  | true =>
    rw [if_pos ⟨rfl, by rw [hs]; rfl⟩]
    have e := stepF_end wF code X.s (wrs X.mem X.buf) he
    exact ⟨hs, by rw [e], by rw [e], by rw [e]⟩
  | false =>
    rw [if_neg (by simp), if_neg (fun e => hi e.1), if_neg hi]
    unfold doN
    by_cases hp : X.s.pc < 0 ∨ (code.length : Int) ≤ X.s.pc
    · rw [if_pos hp]; exact honest_none h hs
    · rw [if_neg hp]
      have p0 : 0 ≤ X.s.pc := by omega
      have p1 : X.s.pc < (code.length : Int) := by omega
      split
      · exact commit_plain hs (honest_none (commit_good h hs 0).1 hs)
      · rw [if_neg (fun e => h1 ⟨e.1, p0, p1, e.2⟩), if_neg (fun e => h2 ⟨e.1, p0, p1, e.2⟩)]
        exact honest_none h hs
/-! ### How it comes to its end -/
theorem wRun_steps (code : List S48) (p : St × List Int) (hp : p.1.steps = 0) : ∀ j : Nat, j ≤ 1000000 → (∀ i < j, (wRun code i p).1.ended = false) → (wRun code j p).1.steps = (j : Int)
  | 0, _, _ => hp
  | j + 1, hj, h => by
    rw [wRun_succ]
    dsimp only
    rw [stepF_kept _ _ _ _ (h j (by omega)), wRun_steps code p hp j (by omega) (fun i hi => h i (by omega)), w64 _ (by omega) (by omega)]
    push_cast
    rfl
/-- The first step at which layer 19 is at its end. -/
theorem first_end (code : List S48) (p : St × List Int) : ∀ n : Nat, (wRun code n p).1.ended = true → ∃ K, K ≤ n ∧ (wRun code K p).1.ended = true ∧ (∀ i < K, (wRun code i p).1.ended = false) ∧ wRun code n p = wRun code K p
  | 0, h => ⟨0, Nat.le_refl _, h, fun i hi => by omega, rfl⟩
  | n + 1, h => by
    cases hn : (wRun code n p).1.ended with
    | true =>
      obtain ⟨K, h1, h2, h3, h4⟩ := first_end code p n hn
      refine ⟨K, by omega, h2, h3, ?_⟩
      rw [wRun_succ, stepF_end wF code _ _ hn]
      exact h4
    | false =>
      by_cases ha : ∀ i < n, (wRun code i p).1.ended = false
      · exact ⟨n + 1, Nat.le_refl _, h, fun i hi => (by
          by_cases e : i = n
          · rw [e]; exact hn
          · exact ha i (by omega)), rfl⟩
      · exfalso
        obtain ⟨i, hi, he⟩ : ∃ i, i < n ∧ (wRun code i p).1.ended = true := by
          false_or_by_contra
          rename_i hc
          exact ha fun i hi => by
            cases e : (wRun code i p).1.ended with
            | false => rfl
            | true => exact absurd ⟨i, hi, e⟩ hc
        obtain ⟨d, rfl⟩ : ∃ d, n = i + d := ⟨n - i, by omega⟩
        rw [wRun_add, wRun_end code he] at hn
        rw [he] at hn
        cases hn
/-- What is so where layer 19 ends behind K steps. -/
structure Ends (code : List S48) (p : St × List Int) (K : Nat) : Prop where
  e : (wRun code K p).1.ended = true
  b : ∀ i < K, (wRun code i p).1.ended = false
  s : (wRun code K p).1.steps = (K : Int)
/-- Beside Inv: what is guessed goes on from where the machine is not at its end, for so many deeds at most. -/
structure Inv2 (code : List S48) (p : St × List Int) (N : Nat) (win : Int) (X : SM) : Prop where
  i : Inv code p N X
  g : ∀ q, X.saved = some q → q.1.ended = false ∧ 0 ≤ X.left ∧ X.left ≤ win
theorem known_le (h : Inv code p N X) {K : Nat} (hE : Ends code p K) (h0 : 0 ≤ (kwnS X).steps) : (kwnS X).steps ≤ K ∧ ((kwnS X).ended = true ↔ (kwnS X).steps = (K : Int)) := by
  have hk := h.known
  by_cases hle : K ≤ (kwnS X).steps.toNat
  · obtain ⟨d, hd⟩ : ∃ d, (kwnS X).steps.toNat = K + d := ⟨_, (Nat.add_sub_cancel' hle).symm⟩
    rw [hd, wRun_add, wRun_end code hE.e] at hk
    have e1 : (wRun code K p).1 = kwnS X := by rw [hk]
    have e2 := hE.s
    have e3 := hE.e
    rw [e1] at e2 e3
    exact ⟨by omega, fun _ => e2, fun _ => e3⟩
  · have e1 := hE.b _ (by omega : (kwnS X).steps.toNat < K)
    rw [hk] at e1
    exact ⟨by omega, fun e => (by rw [e1] at e; cases e), fun e => by omega⟩
def Phi (K : Nat) (win : Int) (X : SM) : Int := (win + 2) * ((K : Int) - (kwnS X).steps) + (if X.saved.isSome = true then X.left + 1 else 0)
theorem kwn_nonneg (h : Inv code p N X) : 0 ≤ (kwnS X).steps := by
  unfold kwnS
  cases hs : X.saved with
  | none => exact h.st0
  | some q => exact (h.sav q hs).2.2.2.1
theorem phi_none (hs : X.saved = none) (K : Nat) (win : Int) : Phi K win X = (win + 2) * ((K : Int) - X.s.steps) := by
  unfold Phi kwnS
  rw [hs]
  simp
theorem phi_some {q : St × List (Int × Int)} (hs : X.saved = some q) (K : Nat) (win : Int) : Phi K win X = (win + 2) * ((K : Int) - q.1.steps) + (X.left + 1) := by
  unfold Phi kwnS
  rw [hs]
  simp
theorem mul_less (a b : Int) (ha : 0 ≤ a) : a * (b - 1) = a * b - a := by rw [Int.mul_sub, Int.mul_one]
/-- From where nothing is guessed, and the machine is not at its end. -/
theorem plain_phi (h : Inv code p N X) (hN : N ≤ 1000000) (hs : X.saved = none) (he : X.s.ended = false) (K : Nat) (win : Int) (hw : 0 ≤ win) {R : SM × List S60} (hR : Plain code X R) : Phi K win R.1 ≤ Phi K win X - 1 := by
  have e : R.1.s.steps = X.s.steps + 1 := by
    rw [hR.s, stepF_kept _ _ _ _ he]
    have := h.st0
    have := h.st1
    exact w64 _ (by omega) (by omega)
  rw [phi_none hR.sv, phi_none hs, e, show (K : Int) - (X.s.steps + 1) = ((K : Int) - X.s.steps) - 1 by omega, mul_less _ _ (by omega)]
  omega
theorem plain_inv2 {win : Int} {R : SM × List S60} {N' : Nat} (hi : Inv code p N' R.1) (hR : Plain code X R) : Inv2 code p N' win R.1 := ⟨hi, fun q hq => by rw [hR.sv] at hq; cases hq⟩
/-- Where something is guessed. -/
theorem honest_some {win : Int} (h : Inv2 code p N win X) (hN : N ≤ 1000000) {q : St × List (Int × Int)} (hs : X.saved = some q) (K : Nat) : Inv2 code p (N + 1) win (honestF code X).1 ∧ Phi K win (honestF code X).1 ≤ Phi K win X := by
  have hk : (steppedF false code X).saved = some q := hs
  have hi : (steppedF false code X).saved.isSome = true := by rw [hk]; rfl
  obtain ⟨g1, g2, g3⟩ := h.g q hs
  have hst := step_some h.i hN hs false
  have hg := honest_good h.i hN
  unfold honestF honestT at hg ⊢
  rw [if_pos hi, if_pos hi] at hg ⊢
  split
  · rename_i he
    rw [if_pos he] at hg
    have e : backF (steppedF false code X) = { steppedF false code X with s := q.1, buf := q.2, saved := none, n := 0 } := by unfold backF; rw [hk]
    refine ⟨⟨hg.1, fun q' hq' => ?_⟩, ?_⟩
    · dsimp only at hq'
      rw [e] at hq'
      cases hq'
    · dsimp only
      rw [e, phi_none rfl, phi_some hs]
      dsimp only
      omega
  · rename_i he
    rw [if_neg he] at hg
    refine ⟨⟨hg.1, fun q' hq' => ?_⟩, ?_⟩
    · dsimp only at hq'
      rw [hk] at hq'
      obtain rfl := Option.some.inj hq'
      exact ⟨g1, g2, g3⟩
    · dsimp only
      rw [phi_some hk, phi_some hs]
      exact Int.le_refl _
theorem back_phi {win : Int} (h : Inv2 code p N win X) {q : St × List (Int × Int)} (hs : X.saved = some q) (K : Nat) : Inv2 code p N win (backF X) ∧ Phi K win (backF X) ≤ Phi K win X - 1 := by
  have e : backF X = { X with s := q.1, buf := q.2, saved := none, n := 0 } := by unfold backF; rw [hs]
  obtain ⟨g1, g2, g3⟩ := h.g q hs
  refine ⟨⟨(back_good h.i).1, fun q' hq' => ?_⟩, ?_⟩
  · rw [e] at hq'; cases hq'
  · rw [e, phi_none rfl, phi_some hs]
    dsimp only
    omega
/-- A guess: Y is the machine behind it. -/
theorem guess_phi {win : Int} (hw : 0 ≤ win) (h : Inv2 code p N win X) (hN : N ≤ 1000000) (he : ¬ (aheadP code X).1.ended = true) {Y : SM} (hg : Good code p (N + 1) X Y) (hsv : Y.saved = (guessF win (aheadP code X) X).saved) (hl : Y.left = (guessF win (aheadP code X) X).left) (K : Nat) :
    Inv2 code p (N + 1) win Y ∧ (X.saved = none → Phi K win Y ≤ Phi K win X - 1) ∧ (X.saved ≠ none → Phi K win Y ≤ Phi K win X) := by
  cases hs : X.saved with
  | none =>
    have e : Y.saved = some (aheadP code X) := by rw [hsv]; unfold guessF; rw [hs]; rfl
    have el : Y.left = win := by rw [hl]; unfold guessF; rw [hs]; rfl
    have e3 := (stepped_steps h.i hN false).2.2 (ahead_ended he)
    refine ⟨⟨hg.1, fun q hq => ?_⟩, fun _ => ?_, fun hn => absurd rfl hn⟩
    · rw [e] at hq
      obtain rfl := Option.some.inj hq
      exact ⟨by simpa using he, by omega, by omega⟩
    · rw [phi_some e, phi_none hs, el]
      show (win + 2) * ((K : Int) - (steppedF false code X).s.steps) + (win + 1) ≤ _
      rw [e3, show (K : Int) - (X.s.steps + 1) = ((K : Int) - X.s.steps) - 1 by omega, mul_less _ _ (by omega)]
      omega
  | some q =>
    have e : Y.saved = some q := by rw [hsv]; unfold guessF; rw [hs]; rfl
    have el : Y.left = X.left := by rw [hl]; unfold guessF; rw [hs]; rfl
    obtain ⟨g1, g2, g3⟩ := h.g q hs
    refine ⟨⟨hg.1, fun q' hq => ?_⟩, fun hn => (by cases hn), fun _ => ?_⟩
    · rw [e] at hq
      obtain rfl := Option.some.inj hq
      exact ⟨g1, by omega, by omega⟩
    · rw [phi_some e, phi_some hs, el]
      exact Int.le_refl _
theorem wrong_phi {win : Int} (hw : 0 ≤ win) (h : Inv2 code p N win X) (hN : N ≤ 1000000) (hx : X.saved = none → X.s.ended = false) (sites : List Int) (i0 i5 tq : Int) (K : Nat) :
    Inv2 code p (N + 1) win (wrongF code sites win i0 i5 tq X).1 ∧ (X.saved = none → Phi K win (wrongF code sites win i0 i5 tq X).1 ≤ Phi K win X - 1) ∧ (X.saved ≠ none → Phi K win (wrongF code sites win i0 i5 tq X).1 ≤ Phi K win X) := by
  have hg := wrong_good h.i hN sites win i0 i5 tq
  unfold wrongF at hg ⊢
  split
  · rename_i hc
    cases hs : X.saved with
    | none => exact ⟨plain_inv2 (honest_good h.i hN).1 (honest_none h.i hs), fun _ => plain_phi h.i hN hs (hx hs) K win hw (honest_none h.i hs), fun hn => absurd rfl hn⟩
    | some q => exact ⟨(honest_some h hN hs K).1, fun hn => (by cases hn), fun _ => (honest_some h hN hs K).2⟩
  · rename_i hc
    rw [if_neg hc] at hg
    exact guess_phi hw h hN (fun e => hc (.inl e)) hg rfl rfl K
theorem stale_phi {win : Int} (hw : 0 ≤ win) (h : Inv2 code p N win X) (hN : N ≤ 1000000) (hx : X.saved = none → X.s.ended = false) (K : Nat) :
    Inv2 code p (N + 1) win (staleF code win X).1 ∧ (X.saved = none → Phi K win (staleF code win X).1 ≤ Phi K win X - 1) ∧ (X.saved ≠ none → Phi K win (staleF code win X).1 ≤ Phi K win X) := by
  have hg := stale_good h.i hN win
  unfold staleF at hg ⊢
  split
  · rename_i hc
    cases hs : X.saved with
    | none => exact ⟨plain_inv2 (honest_good h.i hN).1 (honest_none h.i hs), fun _ => plain_phi h.i hN hs (hx hs) K win hw (honest_none h.i hs), fun hn => absurd rfl hn⟩
    | some q => exact ⟨(honest_some h hN hs K).1, fun hn => (by cases hn), fun _ => (honest_some h hN hs K).2⟩
  · rename_i hc
    rw [if_neg hc] at hg
    exact guess_phi hw h hN hc hg rfl rfl K
theorem Inv2.le {win : Int} (h : Inv2 code p N win X) {N' : Nat} (hN : N ≤ N') : Inv2 code p N' win X := ⟨h.i.le hN, h.g⟩
theorem doN_phi {win : Int} (hw : 0 ≤ win) (h : Inv2 code p N win X) (hN : N ≤ 1000000) (hx : X.saved = none → X.s.ended = false) (sites : List Int) (d tq : Int) (K : Nat) :
    Inv2 code p (N + 1) win (doN code sites win X d tq).1 ∧ (X.saved = none → Phi K win (doN code sites win X d tq).1 ≤ Phi K win X - 1) ∧ (X.saved ≠ none → Phi K win (doN code sites win X d tq).1 ≤ Phi K win X) := by
  have hon : Inv2 code p (N + 1) win (honestF code X).1 ∧ (X.saved = none → Phi K win (honestF code X).1 ≤ Phi K win X - 1) ∧ (X.saved ≠ none → Phi K win (honestF code X).1 ≤ Phi K win X) := by
    cases hs : X.saved with
    | none => exact ⟨plain_inv2 (honest_good h.i hN).1 (honest_none h.i hs), fun _ => plain_phi h.i hN hs (hx hs) K win hw (honest_none h.i hs), fun hn => absurd rfl hn⟩
    | some q => exact ⟨(honest_some h hN hs K).1, fun hn => (by cases hn), fun _ => (honest_some h hN hs K).2⟩
  unfold doN
  split
  · exact hon
  split
  · split
    · rename_i hi
      obtain ⟨q, hq⟩ := Option.isSome_iff_exists.1 hi
      have hb := back_phi h hq K
      exact ⟨hb.1.le (Nat.le_succ _), fun hn => (by rw [hq] at hn; cases hn), fun _ => (by have := hb.2; dsimp only; omega)⟩
    · rename_i hi
      have hs : X.saved = none := by simpa using hi
      have hc := commit_good h.i hs 0
      have hp := commit_plain hs (honest_none hc.1 hs)
      exact ⟨plain_inv2 (honest_good hc.1 hN).1 hp, fun _ => plain_phi h.i hN hs (hx hs) K win hw hp, fun hn => absurd hs hn⟩
  split
  · exact wrong_phi hw h hN hx sites _ _ tq K
  split
  · exact stale_phi hw h hN hx K
  · exact hon
/-- Each deed brings the end nearer. -/
theorem doM_phi {win : Int} (hw : 0 ≤ win) (hw1 : win ≤ 1000) (h : Inv2 code p N win X) (hN : N ≤ 1000000) (sites : List Int) (d tq : Int) (K : Nat) :
    Inv2 code p (N + 1) win (doM code sites win X d tq).1 ∧ ((X.s.ended = true ∧ X.saved = none ∧ (doM code sites win X d tq) = (X, [])) ∨ Phi K win (doM code sites win X d tq).1 ≤ Phi K win X - 1) := by
  unfold doM
  by_cases he : X.s.ended = true ∧ X.saved.isSome = false
  · rw [if_pos he]
    exact ⟨h.le (Nat.le_succ _), .inl ⟨he.1, by simpa using he.2, rfl⟩⟩
  rw [if_neg he]
  by_cases hi : X.saved.isSome = true
  · obtain ⟨q, hs⟩ := Option.isSome_iff_exists.1 hi
    by_cases hb : d = 3 ∨ X.left = 0
    · rw [if_pos ⟨hi, hb⟩]
      have := back_phi h hs K
      exact ⟨this.1.le (Nat.le_succ _), .inr this.2⟩
    · rw [if_neg (fun e => hb e.2), if_pos hi]
      obtain ⟨g1, g2, g3⟩ := h.g q hs
      have hl : X.left ≠ 0 := fun e => hb (.inr e)
      have hlw : wrap64 (X.left - 1) = X.left - 1 := w64 _ (by omega) (by omega)
      have h2 : Inv2 code p N win { X with left := wrap64 (X.left - 1) } := ⟨left_inv h.i _, fun q' hq' => by
        have hq2 : X.saved = some q' := hq'
        rw [hs] at hq2
        obtain rfl := Option.some.inj hq2
        exact ⟨g1, by show 0 ≤ wrap64 (X.left - 1); omega, by show wrap64 (X.left - 1) ≤ win; omega⟩⟩
      have hs2 : ({ X with left := wrap64 (X.left - 1) } : SM).saved = some q := hs
      have := doN_phi hw h2 hN (fun hn => by rw [hs2] at hn; cases hn) sites d tq K
      refine ⟨this.1, .inr ?_⟩
      have h3 := this.2.2 (by rw [hs2]; exact fun hn => by cases hn)
      rw [phi_some hs2] at h3
      rw [phi_some hs]
      dsimp only at h3
      omega
  · have hs : X.saved = none := by simpa using hi
    have hee : X.s.ended = false := by
      cases e : X.s.ended with
      | false => rfl
      | true => exact absurd ⟨e, by rw [hs]; rfl⟩ he
    rw [if_neg (fun e => hi e.1), if_neg hi]
    have := doN_phi hw h hN (fun _ => hee) sites d tq K
    exact ⟨this.1, .inr (this.2.1 hs)⟩
end
end Go.Proofs.Ytiafbpbbhgpjkaa.B
