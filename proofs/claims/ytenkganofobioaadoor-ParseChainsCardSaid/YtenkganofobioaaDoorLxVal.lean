/- Lexing: a number's value. -/
import Derived.Test.YtenkganofobioaaDoorLxSkip
namespace Go.Proofs.YtenkganofobioaaDoor.B
open Go.RowKit Go.Proofs.YtenkganofobioaaDoor.Mine Go.Proofs.YtenkganofobioaaDoor.Sep Go.Proofs.YtenkganofobioaaDoorW.PrintWords Go.Proofs.YtenkganofobioaaDoorW.PrintLast Go.Proofs.YtenkganofobioaaDoorW.PrintMore
set_option linter.unusedVariables false
set_option linter.unusedSimpArgs false
theorem bt_bs {s : List UInt8} {i : Nat} (h : i < s.length) : bt (bs s) (i : Int) = ((s[i].toNat : Nat) : Int) := by
  have hb : ((i : Int)).toNat < (bs s).size := by rw [bs_size]; omega
  rw [← bt_at (bs s) (i : Int) hb]
  rfl
theorem isD_iff {c : UInt8} : isD c = true ↔ 48 ≤ c.toNat ∧ c.toNat ≤ 57 := by
  unfold isD
  rw [Bool.and_eq_true, decide_eq_true_eq, decide_eq_true_eq]
theorem value_l0 (s : List UInt8) (hs : s.length ≤ 65536) (hd : ∀ c ∈ s, isD c = true) :
    ∀ (d i k : Nat) (n : Int), i + d = s.length → d + 1 ≤ k → 0 ≤ n → n ≤ 9223372036854775807 → lex_value.l0 k (bs s) n ((bs s).size : Int) (i : Int) = some (match valP n (s.drop i) with | none => (0, false) | some v => (v, true)) := by
  intro d
  induction d with
  | zero =>
    intro i k n hi hk h0 h1
    obtain ⟨k, rfl⟩ : ∃ j, k = j + 1 := ⟨k - 1, by omega⟩
    rw [lex_value.l0, bs_size, if_neg (by omega), List.drop_eq_nil_of_le (by omega), valP]
  | succ d ih =>
    intro i k n hi hk h0 h1
    obtain ⟨k, rfl⟩ : ∃ j, k = j + 1 := ⟨k - 1, by omega⟩
    have hil : i < s.length := by omega
    have hc := isD_iff.1 (hd s[i] (List.getElem_mem hil))
    rw [lex_value.l0, bs_size, if_pos (by omega), if_pos (by omega), if_pos (by omega), bt_bs hil, drop_get hil, valP]
    have hm : (((s[i].toNat : Nat) : Int) - 48) % 256 = ((s[i].toNat : Nat) : Int) - 48 := by omega
    rw [hm]
    by_cases hg : n > (9223372036854775807 - (((s[i].toNat : Nat) : Int) - 48)) / 10
    · rw [if_pos hg, if_pos hg]
    · rw [if_neg hg, if_neg hg, w64 (n * 10) (by omega) (by omega), w64 (n * 10 + _) (by omega) (by omega), w64 ((i : Int) + 1) (by omega) (by omega)]
      have := ih (i + 1) k (n * 10 + (((s[i].toNat : Nat) : Int) - 48)) (by omega) (by omega) (by omega) (by omega)
      rw [bs_size] at this
      exact_mod_cast this
theorem value_bs (s : List UInt8) (hs : s.length ≤ 65536) (hd : ∀ c ∈ s, isD c = true) (k : Nat) (hk : s.length + 1 ≤ k) : lex_value.f k (bs s) = some (match valP 0 s with | none => (0, false) | some v => (v, true)) := by
  have := value_l0 s hs hd s.length 0 k 0 (by omega) hk (by omega) (by omega)
  rw [List.drop_zero] at this
  exact this
theorem run_digits : ∀ (r : List UInt8), ∀ c ∈ r.take (runN false r), isD c = true
  | [], c, h => by simp [runN] at h
  | x :: r, c, h => by
    rw [runN] at h
    split at h
    · rename_i hx
      rw [Nat.add_comm, List.take_succ_cons] at h
      rcases List.mem_cons.1 h with rfl | h
      · simpa using hx
      · exact run_digits r c h
    · simp at h
end Go.Proofs.YtenkganofobioaaDoor.B
