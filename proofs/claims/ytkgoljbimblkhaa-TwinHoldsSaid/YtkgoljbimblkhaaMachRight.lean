/- Whether an image is right is told; and what a right image is like. -/
import Derived.Test.YtkgoljbimblkhaaBx3
import Derived.Test.YtkgoljbimblkhaaMachStart
namespace Go.Proofs.Ytkgoljbimblkhaa.B
open Go.RowKit Go.Proofs.Ytkgoljbimblkhaa.Mine Go.Proofs.Ytkgoljbimblkhaa.Sep Go.Proofs.YtkgoljbimblkhaaW.PrintWords Go.Proofs.YtkgoljbimblkhaaW.PrintLast Go.Proofs.YtkgoljbimblkhaaW.PrintMore
set_option linter.unusedVariables false
set_option linter.unusedSimpArgs false

theorem right_l1 (C : List S56) (A : List S60) (st mem : Int) (hC : C.length ≤ 40000) : ∀ (m i k : Nat) (x : Int), i + m = C.length → m < k → ∃ t, image_Image_Right.l1 k x C (C.length : Int) (i : Int) C A st mem = some t := by
  intro m
  induction m with
  | zero =>
    intro i k x hi hk
    obtain ⟨k, rfl⟩ : ∃ j, k = j + 1 := ⟨k - 1, by omega⟩
    rw [image_Image_Right.l1, if_neg (by omega)]
    exact ⟨_, rfl⟩
  | succ m ih =>
    intro i k x hi hk
    obtain ⟨k, rfl⟩ : ∃ j, k = j + 1 := ⟨k - 1, by omega⟩
    rw [image_Image_Right.l1, if_pos (by omega), if_pos (by omega), if_pos (by omega), code_Ins_Right.f, Option.bind_some, w64 ((i : Int) + 1) (by omega) (by omega)]
    obtain ⟨t, ht⟩ := ih (i + 1) k x (by omega) (by omega)
    have ht' : image_Image_Right.l1 k x C (C.length : Int) ((i : Int) + 1) C A st mem = some t := by exact_mod_cast ht
    split
    · obtain ⟨g, hg⟩ : ∃ g, code_Ins_Goes.f (rd_T56 C i).f0 (rd_T56 C i).f1 (rd_T56 C i).f2 (rd_T56 C i).f3 (rd_T56 C i).f4 (rd_T56 C i).f5 = some g := by
        unfold code_Ins_Goes.f
        split
        · exact ⟨_, rfl⟩
        · split <;> exact ⟨_, rfl⟩
      rw [hg, Option.bind_some]
      split
      · split
        · exact ⟨_, rfl⟩
        · exact ⟨_, ht'⟩
      · exact ⟨_, ht'⟩
    · exact ⟨_, rfl⟩
theorem right_l0 (C : List S56) (A : List S60) (st mem : Int) (hC : C.length ≤ 40000) (hA : A.length ≤ 40000) : ∀ (m i k : Nat) (x : Int), i + m = A.length → m + C.length + 1 < k → ∃ t, image_Image_Right.l0 k x A (A.length : Int) (i : Int) C A st mem = some t := by
  intro m
  induction m with
  | zero =>
    intro i k x hi hk
    obtain ⟨k, rfl⟩ : ∃ j, k = j + 1 := ⟨k - 1, by omega⟩
    rw [image_Image_Right.l0, if_neg (by omega)]
    exact right_l1 C A st mem hC C.length 0 k x (by omega) (by omega)
  | succ m ih =>
    intro i k x hi hk
    obtain ⟨k, rfl⟩ : ∃ j, k = j + 1 := ⟨k - 1, by omega⟩
    rw [image_Image_Right.l0, if_pos (by omega), if_pos (by omega), if_pos (by omega), w64 ((i : Int) + 1) (by omega) (by omega)]
    obtain ⟨t, ht⟩ := ih (i + 1) k (wrap64 (x + (rd_T60 A i).f1)) (by omega) (by omega)
    have ht' : image_Image_Right.l0 k (wrap64 (x + (rd_T60 A i).f1)) A (A.length : Int) ((i : Int) + 1) C A st mem = some t := by exact_mod_cast ht
    split
    · split
      · exact ⟨_, rfl⟩
      · split
        · exact ⟨_, rfl⟩
        · split
          · exact ⟨_, rfl⟩
          · split
            · exact ⟨_, rfl⟩
            · exact ⟨_, ht'⟩
    · exact ⟨_, rfl⟩
theorem right_j0 (x : Bool) (C : List S56) (A : List S60) (st mem : Int) (hC : C.length ≤ 40000) (hA : A.length ≤ 40000) (k : Nat) (hk : A.length + C.length + 5 < k) : ∃ t, image_Image_Right.j0 k x C A st mem = some t := by
  obtain ⟨k, rfl⟩ : ∃ j, k = j + 1 := ⟨k - 1, by omega⟩
  rw [image_Image_Right.j0]
  split
  · exact ⟨_, rfl⟩
  · exact right_l0 C A st mem hC hA A.length 0 k 0 (by omega) (by omega)
theorem right_total (C : List S56) (A : List S60) (st mem : Int) (hC : C.length ≤ 40000) (hA : A.length ≤ 40000) (k : Nat) (hk : A.length + C.length + 5 < k) : ∃ t, image_Image_Right.f k C A st mem = some t := by
  unfold image_Image_Right.f
  have h := fun x => right_j0 x C A st mem hC hA k hk
  repeat' split
  all_goals exact h _
theorem reg_fit {has : Bool} {n : Int} (h : regB has n = true) : 0 ≤ n ∧ n < 64 := by
  unfold regB at h
  cases has with
  | true => simp only [if_true, Bool.and_eq_true, decide_eq_true_eq] at h; exact h
  | false => simp only [Bool.false_eq_true, if_false, beq_iff_eq] at h; omega
theorem right_fit {op d a b bin imm : Int} (h : rightB op d a b bin imm = true) : Fit (⟨op, d, a, b, bin, imm⟩ : S56) ∧ 1 ≤ op ∧ op ≤ 12 := by
  unfold rightB bad1 at h
  simp only [Bool.and_eq_true, Bool.not_eq_true', Bool.or_eq_false_iff, decide_eq_false_iff_not, Bool.not_eq_false'] at h
  obtain ⟨⟨⟨⟨⟨⟨⟨⟨h1, h2⟩, h3⟩, h4⟩, h5⟩, _⟩, _⟩, _⟩, _⟩ := h
  obtain ⟨d0, d1⟩ := reg_fit h3
  obtain ⟨a0, a1⟩ := reg_fit h4
  obtain ⟨b0, b1⟩ := reg_fit h5
  exact ⟨⟨d0, d1, a0, a1, b0, b1⟩, by omega, by omega⟩
theorem getD_get {α : Type} (l : List α) (z : α) (i : Nat) (hi : i < l.length) : l.getD ((i : Int)).toNat z = l[i] := by
  rw [Int.toNat_natCast, List.getD_eq_getElem?_getD, List.getElem?_eq_getElem hi]
  rfl
theorem right_l1_true (C : List S56) (A : List S60) (st mem : Int) (hC : C.length ≤ 40000) : ∀ (k i : Nat) (x : Int), i ≤ C.length → image_Image_Right.l1 k x C (C.length : Int) (i : Int) C A st mem = some true →
    x ≤ st ∧ ∀ j (hj : j < C.length), i ≤ j → rightB C[j].f0 C[j].f1 C[j].f2 C[j].f3 C[j].f4 C[j].f5 = true ∧ ((C[j].f0 = 6 ∨ C[j].f0 = 7 ∨ C[j].f0 = 8) → C[j].f5 < (C.length : Int)) := by
  intro k
  induction k with
  | zero => intro i x hi h; simp [image_Image_Right.l1] at h
  | succ k ih =>
    intro i x hi h
    rw [image_Image_Right.l1] at h
    by_cases hlt : i < C.length
    · rw [if_pos (by omega), if_pos (by omega), if_pos (by omega), code_Ins_Right.f, Option.bind_some, w64 ((i : Int) + 1) (by omega) (by omega)] at h
      have hrd : rd_T56 C (i : Int) = C[i] := getD_get C _ i hlt
      rw [hrd] at h
      have hne : ∀ j (hj : j < C.length), i ≤ j → (rightB C[i].f0 C[i].f1 C[i].f2 C[i].f3 C[i].f4 C[i].f5 = true ∧ ((C[i].f0 = 6 ∨ C[i].f0 = 7 ∨ C[i].f0 = 8) → C[i].f5 < (C.length : Int))) → (i + 1 ≤ j → rightB C[j].f0 C[j].f1 C[j].f2 C[j].f3 C[j].f4 C[j].f5 = true ∧ ((C[j].f0 = 6 ∨ C[j].f0 = 7 ∨ C[j].f0 = 8) → C[j].f5 < (C.length : Int))) →
          rightB C[j].f0 C[j].f1 C[j].f2 C[j].f3 C[j].f4 C[j].f5 = true ∧ ((C[j].f0 = 6 ∨ C[j].f0 = 7 ∨ C[j].f0 = 8) → C[j].f5 < (C.length : Int)) := by
        intro j hj hij h1 h2
        by_cases e : j = i
        · subst e; exact h1
        · exact h2 (by omega)
      by_cases hr : rightB C[i].f0 C[i].f1 C[i].f2 C[i].f3 C[i].f4 C[i].f5 = true
      · rw [if_pos hr] at h
        by_cases hg : C[i].f0 = 6 ∨ C[i].f0 = 7 ∨ C[i].f0 = 8
        · have hgo : code_Ins_Goes.f C[i].f0 C[i].f1 C[i].f2 C[i].f3 C[i].f4 C[i].f5 = some true := by
            unfold code_Ins_Goes.f
            rcases hg with hg | hg | hg <;> rw [hg] <;> rfl
          rw [hgo, Option.bind_some, if_pos rfl] at h
          by_cases hi5 : C[i].f5 ≥ (C.length : Int)
          · rw [if_pos hi5] at h; simp at h
          · rw [if_neg hi5] at h
            obtain ⟨h1, h2⟩ := ih (i + 1) x hlt (by exact_mod_cast h)
            exact ⟨h1, fun j hj hij => hne j hj hij ⟨hr, fun _ => by omega⟩ (h2 j hj)⟩
        · have hgo : code_Ins_Goes.f C[i].f0 C[i].f1 C[i].f2 C[i].f3 C[i].f4 C[i].f5 = some false := by
            unfold code_Ins_Goes.f
            rw [if_neg (fun e => hg (.inl e)), if_neg (fun e => hg (.inr (.inl e)))]
            congr 1
            exact beq_eq_false_iff_ne.mpr (fun e => hg (.inr (.inr e)))
          rw [hgo, Option.bind_some, if_neg (by decide)] at h
          obtain ⟨h1, h2⟩ := ih (i + 1) x hlt (by exact_mod_cast h)
          exact ⟨h1, fun j hj hij => hne j hj hij ⟨hr, fun h => absurd h hg⟩ (h2 j hj)⟩
      · rw [if_neg hr] at h; simp at h
    · rw [if_neg (by omega)] at h
      have h1 : decide (x ≤ st) = true := Option.some.inj h
      exact ⟨of_decide_eq_true h1, fun j hj hij => by omega⟩
structure Right (C : List S56) (A : List S60) (st mem : Int) : Prop where
  c1 : 1 ≤ C.length
  c2 : C.length ≤ 32768
  a1 : A.length ≤ 64
  s0 : 0 ≤ st
  s1 : st ≤ mem
  m1 : mem ≤ 1048576
  code : ∀ i ∈ C, rightB i.f0 i.f1 i.f2 i.f3 i.f4 i.f5 = true ∧ ((i.f0 = 6 ∨ i.f0 = 7 ∨ i.f0 = 8) → i.f5 < (C.length : Int))
  lies : ∀ a ∈ A, Lies st a ∧ 0 ≤ a.f2 ∧ a.f2 ≤ 2
theorem right_l0_true (C : List S56) (A : List S60) (st mem : Int) (hC : C.length ≤ 40000) (hA : A.length ≤ 64) : ∀ (k i : Nat) (x : Int), i ≤ A.length → 0 ≤ x → x ≤ 4096 * i → image_Image_Right.l0 k x A (A.length : Int) (i : Int) C A st mem = some true →
    (∃ k' x', 0 ≤ x' ∧ x ≤ x' ∧ image_Image_Right.l1 k' x' C (C.length : Int) 0 C A st mem = some true) ∧ ∀ j (hj : j < A.length), i ≤ j → Lies st A[j] ∧ 0 ≤ A[j].f2 ∧ A[j].f2 ≤ 2 := by
  intro k
  induction k with
  | zero => intro i x hi h0 h1 h; simp [image_Image_Right.l0] at h
  | succ k ih =>
    intro i x hi h0 h1 h
    rw [image_Image_Right.l0] at h
    by_cases hlt : i < A.length
    · rw [if_pos (by omega), if_pos (by omega), if_pos (by omega), w64 ((i : Int) + 1) (by omega) (by omega)] at h
      have hrd : rd_T60 A (i : Int) = A[i] := getD_get A _ i hlt
      rw [hrd] at h
      split at h
      · rename_i e0
        split at h
        · simp at h
        · rename_i e1
          split at h
          · simp at h
          · rename_i e2
            split at h
            · simp at h
            · rename_i e3
              split at h
              · simp at h
              · rename_i e4
                rw [w64 (x + A[i].f1) (by omega) (by omega)] at h
                obtain ⟨⟨k', x', q0, q1, q2⟩, h2⟩ := ih (i + 1) (x + A[i].f1) hlt (by omega) (by push_cast; omega) (by exact_mod_cast h)
                refine ⟨⟨k', x', q0, by omega, q2⟩, fun j hj hij => ?_⟩
                by_cases e : j = i
                · subst e
                  have := (right_l1_true C A st mem hC k' 0 x' (Nat.zero_le _) (by exact_mod_cast q2)).1
                  exact ⟨⟨by omega, by omega, by omega, by omega⟩, by omega, by omega⟩
                · exact h2 j hj (by omega)
      · simp at h
    · rw [if_neg (by omega)] at h
      exact ⟨⟨k, x, h0, Int.le_refl _, h⟩, fun j hj hij => by omega⟩
theorem right_true {k : Nat} {C : List S56} {A : List S60} {st mem : Int} (h : image_Image_Right.f k C A st mem = some true) : Right C A st mem := by
  have hj : ∀ b, image_Image_Right.j0 k b C A st mem = some true → b = false := by
    intro b hb
    cases k with
    | zero => simp [image_Image_Right.j0] at hb
    | succ k => cases b with
      | false => rfl
      | true => simp [image_Image_Right.j0] at hb
  unfold image_Image_Right.f at h
  split at h
  · exact absurd (hj _ h) (by decide)
  split at h
  · exact absurd (hj _ h) (by decide)
  split at h
  · exact absurd (hj _ h) (by decide)
  split at h
  · exact absurd (hj _ h) (by decide)
  split at h
  · exact absurd (hj _ h) (by decide)
  rename_i g1 g2 g3 g4 g5
  have g6 := of_decide_eq_false (hj _ h)
  cases k with
  | zero => simp [image_Image_Right.j0] at h
  | succ k =>
    rw [image_Image_Right.j0, if_neg (by rw [hj _ h]; decide)] at h
    obtain ⟨⟨k', x', q0, q1, q2⟩, h2⟩ := right_l0_true C A st mem (by omega) (by omega) k 0 0 (Nat.zero_le _) (Int.le_refl _) (by omega) (by exact_mod_cast h)
    have h3 := (right_l1_true C A st mem (by omega) k' 0 x' (Nat.zero_le _) (by exact_mod_cast q2)).2
    refine ⟨by omega, by omega, by omega, by omega, by omega, by omega, fun i hi => ?_, fun a ha => ?_⟩
    · obtain ⟨j, hj, rfl⟩ := List.getElem_of_mem hi
      exact h3 j hj (Nat.zero_le _)
    · obtain ⟨j, hj, rfl⟩ := List.getElem_of_mem ha
      exact h2 j hj (Nat.zero_le _)
theorem Right.fits {C : List S56} {A : List S60} {st mem : Int} (h : Right C A st mem) : ∀ i ∈ C, Fit i := fun i hi => (right_fit (h.code i hi).1).1
theorem Right.liesM {C : List S56} {A : List S60} {st mem : Int} (h : Right C A st mem) : ∀ a ∈ A, Lies mem a := fun a ha => by
  have h1 := (h.lies a ha).1
  exact ⟨h1.at0, h1.sz1, h1.sz2, by have := h1.fit; have := h.s1; omega⟩
end Go.Proofs.Ytkgoljbimblkhaa.B
