/- Two lists that are the same are found the same; what a run's steps are. -/
import Derived.Test.YtigimkcppocodaaBx6
import Derived.Test.YtigimkcppocodaaBx7
import Derived.Test.YtigimkcppocodaaMachFew
import Derived.Test.YtigimkcppocodaaSep3
namespace Go.Proofs.Ytigimkcppocodaa.B
open Go.RowKit Go.Proofs.Ytigimkcppocodaa.Mine Go.Proofs.Ytigimkcppocodaa.Sep Go.Proofs.YtigimkcppocodaaW.PrintWords Go.Proofs.YtigimkcppocodaaW.PrintLast Go.Proofs.YtigimkcppocodaaW.PrintMore
set_option linter.unusedVariables false
set_option linter.unusedSimpArgs false

theorem words_l0 (l : List Int) (hl : l.length ≤ 1000000) : ∀ (d i k : Nat), i + d = l.length → d < k → palingslaw19_words.l0 k l l (l.length : Int) (i : Int) = some true := by
  intro d
  induction d with
  | zero =>
    intro i k hi hk
    obtain ⟨k, rfl⟩ : ∃ j, k = j + 1 := ⟨k - 1, by omega⟩
    rw [palingslaw19_words.l0, if_neg (by omega)]
  | succ d ih =>
    intro i k hi hk
    obtain ⟨k, rfl⟩ : ∃ j, k = j + 1 := ⟨k - 1, by omega⟩
    rw [palingslaw19_words.l0, if_pos (by omega), if_pos (by omega), if_pos (by omega), if_pos (by omega), if_pos rfl, w64 ((i : Int) + 1) (by omega) (by omega)]
    exact_mod_cast ih (i + 1) k (by omega) (by omega)
theorem words_same (l : List Int) (hl : l.length ≤ 1000000) : palingslaw19_words.f 1000001 l l = some true := by
  unfold palingslaw19_words.f
  rw [if_pos rfl]
  exact_mod_cast words_l0 l hl l.length 0 1000001 (by omega) (by omega)
theorem seen_l0 (l : List S53) (hl : l.length ≤ 1000000) : ∀ (d i k : Nat), i + d = l.length → d < k → palingslaw19_Seen.l0 k l l (l.length : Int) (i : Int) = some true := by
  intro d
  induction d with
  | zero =>
    intro i k hi hk
    obtain ⟨k, rfl⟩ : ∃ j, k = j + 1 := ⟨k - 1, by omega⟩
    rw [palingslaw19_Seen.l0, if_neg (by omega)]
  | succ d ih =>
    intro i k hi hk
    obtain ⟨k, rfl⟩ : ∃ j, k = j + 1 := ⟨k - 1, by omega⟩
    rw [palingslaw19_Seen.l0, if_pos (by omega), if_pos (by omega), if_pos (by omega), if_pos (by omega), if_neg (by simp), w64 ((i : Int) + 1) (by omega) (by omega)]
    exact_mod_cast ih (i + 1) k (by omega) (by omega)
theorem seen_same (l : List S53) (hl : l.length ≤ 1000000) : palingslaw19_Seen.f 1000001 l l = some true := by
  unfold palingslaw19_Seen.f
  rw [if_pos rfl]
  exact_mod_cast seen_l0 l hl l.length 0 1000001 (by omega) (by omega)
theorem reachF_mem (i : S58) (s : St) (m : List Int) : (reachF wF i s m).2.1.length = m.length := by
  unfold reachF
  split <;> split <;> simp [wF, wWr] <;> split <;> simp
theorem callF_mem (i : S58) (s : St) (m : List Int) : (callF wF i s m).2.1.length = m.length := by
  unfold callF
  split <;> split <;> simp [wF, wWr] <;> split <;> simp
theorem doF_mem (i : S58) (s : St) (m : List Int) : (doF wF i s m).2.1.length = m.length := by
  unfold doF
  split
  · rfl
  split
  · rfl
  split
  · split <;> rfl
  split
  · exact reachF_mem i s m
  split
  · rfl
  split
  · split <;> rfl
  split
  · exact callF_mem i s m
  split
  · rfl
  split <;> rfl
theorem stepF_mem (code : List S58) (s : St) (m : List Int) : (stepF wF code s m).2.1.length = m.length := by
  unfold stepF
  split
  · rfl
  split
  · rfl
  · exact doF_mem _ _ _
theorem startF_length (ins : List (List Int)) (arrs : List S64) (mem : Int) : (startF ins arrs mem).length = mem.toNat := by
  unfold startF
  rw [startL_length, List.length_replicate]
theorem runN_regs (code : List S58) (fuel : Int) : ∀ (k : Nat) (s : St) (m : List Int), s.regs.length = 64 → (runN code fuel k s m).1.regs.length = 64
  | 0, s, m, h => h
  | k + 1, s, m, h => by
    rw [runN]
    split
    · exact h
    · exact runN_regs code fuel k _ _ (stepF_keeps wF code s m h).1
theorem runN_mem (code : List S58) (fuel : Int) : ∀ (k : Nat) (s : St) (m : List Int), (runN code fuel k s m).2.1.length = m.length
  | 0, s, m => rfl
  | k + 1, s, m => by
    rw [runN]
    split
    · rfl
    · exact (runN_mem code fuel k _ _).trans (stepF_mem code s m)
theorem runN_obs (code : List S58) (fuel : Int) : ∀ (k : Nat) (s : St) (m : List Int), s.regs.length = 64 → (runN code fuel k s m).2.2.length ≤ 3 * k
  | 0, s, m, h => by simp [runN]
  | k + 1, s, m, h => by
    rw [runN]
    split
    · simp
    · have h1 := stepF_keeps wF code s m h
      have h2 := runN_obs code fuel k (stepF wF code s m).1 (stepF wF code s m).2.1 h1.1
      simp only [List.length_append]
      have := h1.2.2
      omega
end Go.Proofs.Ytigimkcppocodaa.B
