/- count as the printed function says, in plain Lean. -/
import Derived.Test.YtaammdmaldodaaaDoorAstNames
namespace Go.Proofs.YtaammdmaldodaaaDoor.B
open Go.RowKit Go.Proofs.YtaammdmaldodaaaDoor.Mine Go.Proofs.YtaammdmaldodaaaDoor.Sep Go.Proofs.YtaammdmaldodaaaDoorW.PrintWords Go.Proofs.YtaammdmaldodaaaDoorW.PrintLast Go.Proofs.YtaammdmaldodaaaDoorW.PrintMore
set_option linter.unusedVariables false
set_option linter.unusedSimpArgs false
mutual
/-- Fuel for a statement's count. -/
def kS : S38 → Nat
  | ⟨_, _, _, _, th, el⟩ => 8 + kSs th + kSs el
def kSs : List S38 → Nat
  | [] => 0
  | s :: r => kS s + 1 + kSs r
end
theorem countS_pos : ∀ s : S38, 1 ≤ countS s
  | ⟨_, _, _, _, _, _⟩ => by rw [countS]; split <;> omega
theorem countSs_len : ∀ l : List S38, l.length ≤ countSs l
  | [] => Nat.zero_le _
  | s :: r => by rw [countSs, List.length_cons]; have := countSs_len r; have := countS_pos s; omega
def CountF (s : S38) : Prop := countS s ≤ MX → ∀ k, kS s ≤ k → palingslaw03_count.f k s.f0 s.f1.f0 s.f1.f1 s.f2 s.f3 s.f4 s.f5 = some ((countS s : Nat) : Int)
theorem count_l1 (l : List S38) (hl : l.length ≤ MX) (ih : ∀ s ∈ l, CountF s) :
    ∀ (d i k x : Nat), i + d = l.length → kSs (l.drop i) + 1 ≤ k → x + countSs (l.drop i) ≤ 2 * MX → countSs (l.drop i) ≤ MX → palingslaw03_count.l1 k (x : Int) l (l.length : Int) (i : Int) = some ((x + countSs (l.drop i) : Nat) : Int) := by
  have hm := mx_le
  intro d
  induction d with
  | zero =>
    intro i k x hi hk hx hc
    obtain ⟨k, rfl⟩ : ∃ j, k = j + 1 := ⟨k - 1, by omega⟩
    rw [palingslaw03_count.l1, if_neg (by omega), List.drop_eq_nil_of_le (by omega), countSs]
    rfl
  | succ d ihd =>
    intro i k x hi hk hx hc
    obtain ⟨k, rfl⟩ : ∃ j, k = j + 1 := ⟨k - 1, by omega⟩
    have hil : i < l.length := by omega
    rw [List.drop_eq_getElem_cons hil, kSs] at hk
    rw [List.drop_eq_getElem_cons hil, countSs] at hx hc ⊢
    rw [palingslaw03_count.l1, if_pos (by omega), if_pos (by omega), if_pos (by omega), rdS hil, ih l[i] (List.getElem_mem hil) (by omega) k (by omega), Option.bind_some, w64 ((i : Int) + 1) (by omega) (by omega), w64 ((x : Int) + (countS l[i] : Nat)) (by omega) (by omega)]
    have := ihd (i + 1) k (x + countS l[i]) (by omega) (by omega) (by omega) (by omega)
    rw [Nat.add_assoc] at this
    exact_mod_cast this
theorem count_l0 (l : List S38) (hl : l.length ≤ MX) (ih : ∀ s ∈ l, CountF s) (a0 p0 p1 : Int) (nm : ByteArray) (es : List S31) (th el : List S38) (R : Option Int) (kr : Nat) (xr : Nat)
    (hr : ∀ k, kr ≤ k → palingslaw03_count.j2 k (xr : Int) a0 p0 p1 nm es th el = R) :
    ∀ (d i k x : Nat), i + d = l.length → kSs (l.drop i) + 1 + kr ≤ k → x + countSs (l.drop i) ≤ 2 * MX → countSs (l.drop i) ≤ MX → x + countSs (l.drop i) = xr → palingslaw03_count.l0 k (x : Int) l (l.length : Int) (i : Int) a0 p0 p1 nm es th el = R := by
  have hm := mx_le
  intro d
  induction d with
  | zero =>
    intro i k x hi hk hx hc hxr
    obtain ⟨k, rfl⟩ : ∃ j, k = j + 1 := ⟨k - 1, by omega⟩
    rw [List.drop_eq_nil_of_le (by omega), countSs, Nat.add_zero] at hxr
    rw [palingslaw03_count.l0, if_neg (by omega), hxr]
    exact hr k (by omega)
  | succ d ihd =>
    intro i k x hi hk hx hc hxr
    obtain ⟨k, rfl⟩ : ∃ j, k = j + 1 := ⟨k - 1, by omega⟩
    have hil : i < l.length := by omega
    rw [List.drop_eq_getElem_cons hil, kSs] at hk
    rw [List.drop_eq_getElem_cons hil, countSs] at hx hc hxr
    rw [palingslaw03_count.l0, if_pos (by omega), if_pos (by omega), if_pos (by omega), rdS hil, ih l[i] (List.getElem_mem hil) (by omega) k (by omega), Option.bind_some, w64 ((i : Int) + 1) (by omega) (by omega), w64 ((x : Int) + (countS l[i] : Nat)) (by omega) (by omega)]
    have := ihd (i + 1) k (x + countS l[i]) (by omega) (by omega) (by omega) (by omega) (by omega)
    exact_mod_cast this
theorem count_step (a0 p0 p1 : Int) (nm : ByteArray) (es : List S31) (th el : List S38) (ihT : ∀ s ∈ th, CountF s) (ihE : ∀ s ∈ el, CountF s) : CountF ⟨a0, ⟨p0, p1⟩, nm, es, th, el⟩ := by
  have hm := mx_le
  intro hc k hk
  rw [kS] at hk
  rw [countS] at hc ⊢
  dsimp only
  have lt := countSs_len th
  have le := countSs_len el
  -- the part behind the first choice
  have tail : ∀ (x : Nat), x ≤ MX → (a0 = 4 ∧ 0 < el.length → 1 + countSs el ≤ MX) → ∀ j, kSs el + 4 ≤ j → palingslaw03_count.j2 j (x : Int) a0 p0 p1 nm es th el = some ((x + (if a0 = 4 ∧ 0 < el.length then 1 + countSs el else 0) : Nat) : Int) := by
    intro x hx hce j hj
    obtain ⟨j, rfl⟩ : ∃ i, j = i + 2 := ⟨j - 2, by omega⟩
    rw [palingslaw03_count.j2]
    by_cases h4 : a0 = 4
    · rw [if_pos h4, palingslaw03_count.j3]
      by_cases he : 0 < el.length
      · rw [if_pos (by simpa using he), if_pos ⟨h4, he⟩, w64 _ (by omega) (by omega)]
        have hce' := hce ⟨h4, he⟩
        have := count_l1 el (by omega) ihE el.length 0 j (x + 1) (by omega) (by rw [List.drop_zero]; omega) (by rw [List.drop_zero]; omega) (by rw [List.drop_zero]; omega)
        rw [List.drop_zero, Nat.add_assoc] at this
        exact_mod_cast this
      · rw [if_neg (by simpa using he), if_neg (fun h => he h.2)]; rfl
    · rw [if_neg h4, palingslaw03_count.j3, if_neg (by decide), if_neg (fun h => h4 h.1)]; rfl
  obtain ⟨k, rfl⟩ : ∃ j, k = j + 2 := ⟨k - 2, by omega⟩
  rw [palingslaw03_count.f]
  have body : a0 = 4 ∨ a0 = 5 → palingslaw03_count.j0 (k + 1) 1 true a0 p0 p1 nm es th el = some (((2 + countSs th) + (if a0 = 4 ∧ 0 < el.length then 1 + countSs el else 0) : Nat) : Int) := by
    intro h45
    rw [if_pos h45] at hc
    rw [palingslaw03_count.j0, if_pos rfl]
    have hce : a0 = 4 ∧ 0 < el.length → 1 + countSs el ≤ MX := fun h => by rw [if_pos h] at hc; omega
    have := count_l0 th (by omega) ihT a0 p0 p1 nm es th el _ (kSs el + 4) (2 + countSs th) (tail (2 + countSs th) (by omega) hce) th.length 0 k 2 (by omega) (by rw [List.drop_zero]; omega) (by rw [List.drop_zero]; omega) (by rw [List.drop_zero]; omega) (by rw [List.drop_zero])
    exact_mod_cast this
  by_cases h4 : a0 = 4
  · rw [if_pos h4, body (.inl h4), if_pos (show a0 = 4 ∨ a0 = 5 from .inl h4)]
  · rw [if_neg h4]
    by_cases h5 : a0 = 5
    · rw [show (a0 == 5) = true from by simpa using h5, body (.inr h5), if_pos (show a0 = 4 ∨ a0 = 5 from .inr h5)]
    · rw [show (a0 == 5) = false from by simpa using h5, palingslaw03_count.j0, if_neg (by decide)]
      have := tail 1 (by decide) (fun h => absurd h.1 h4) k (by omega)
      rw [if_neg (show ¬ (a0 = 4 ∨ a0 = 5) from fun h => h.elim h4 h5)]
      exact_mod_cast this
theorem count_f : ∀ s : S38, CountF s
  | ⟨a0, ⟨p0, p1⟩, nm, es, th, el⟩ => by
    have ihT : ∀ s ∈ th, CountF s := fun s ht => count_f s
    have ihE : ∀ s ∈ el, CountF s := fun s he => count_f s
    exact count_step a0 p0 p1 nm es th el ihT ihE
termination_by s => SizeOf.sizeOf s
decreasing_by
  · have := List.sizeOf_lt_of_mem ht
    simp only [S38.mk.sizeOf_spec]
    omega
  · have := List.sizeOf_lt_of_mem he
    simp only [S38.mk.sizeOf_spec]
    omega
end Go.Proofs.YtaammdmaldodaaaDoor.B
