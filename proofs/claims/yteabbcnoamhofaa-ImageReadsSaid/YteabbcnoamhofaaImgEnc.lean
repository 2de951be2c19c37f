/- An image's bytes as image.Encode makes them; whether two images are the same is told. -/
import Derived.Test.YteabbcnoamhofaaImgPure
import Derived.Test.YteabbcnoamhofaaBx8
import Derived.Test.YteabbcnoamhofaaBx6
namespace Go.Proofs.Yteabbcnoamhofaa.B
open Go.RowKit Go.Proofs.Yteabbcnoamhofaa.Mine Go.Proofs.YteabbcnoamhofaaW.PrintWords Go.Proofs.YteabbcnoamhofaaW.PrintLast Go.Proofs.YteabbcnoamhofaaW.PrintMore
set_option linter.unusedSimpArgs false
set_option linter.unusedVariables false

theorem put_eq (l : List Int) (x : Int) (hl : l.length < 100000) : image_put.f l x = some (l ++ n4 x) := by
  unfold image_put.f
  rw [Option.bind_some, if_pos (by simp only [List.length_cons, List.length_nil]; omega)]
  rfl
theorem rd33_get {A : List S33} {i : Nat} (h : i < A.length) : rd_T33 A (i : Int) = A[i] := by
  unfold rd_T33; rw [Int.toNat_natCast, List.getD_eq_getElem?_getD, List.getElem?_eq_getElem h]; rfl
theorem rd26_get {A : List S26} {i : Nat} (h : i < A.length) : rd_T26 A (i : Int) = A[i] := by
  unfold rd_T26; rw [Int.toNat_natCast, List.getD_eq_getElem?_getD, List.getElem?_eq_getElem h]; rfl
theorem enc_l1 (C : List S26) (hC : C.length ≤ 100) : ∀ (m i k : Nat) (l : List Int), i + m = C.length → l.length ≤ 10000 + 13 * i → 100 + m ≤ k →
    ∃ b e, image_Encode.l1 k l C (C.length : Int) (i : Int) = some (b, e) ∧ (e = 0 → b = l ++ (C.drop i).flatMap encC) := by
  intro m
  induction m with
  | zero =>
    intro i k l hi hl hk
    obtain ⟨k, rfl⟩ : ∃ j, k = j + 1 := ⟨k - 1, by omega⟩
    rw [image_Encode.l1, if_neg (by omega)]
    refine ⟨_, _, rfl, fun _ => ?_⟩
    rw [List.drop_of_length_le (by omega)]
    simp
  | succ m ih =>
    intro i k l hi hl hk
    obtain ⟨k, rfl⟩ : ∃ j, k = j + 1 := ⟨k - 1, by omega⟩
    have hil : i < C.length := by omega
    rw [image_Encode.l1, if_pos (by omega), if_pos (by omega), if_pos (by omega), encode_k k (by omega), rd26_get hil]
    split
    · rw [Option.bind_some, if_pos rfl]
      have h13 : (bytesI C[i].f0 C[i].f1 C[i].f2 C[i].f3 C[i].f4 C[i].f5).length = 13 := rfl
      rw [if_pos (by show l.length + (bytesI C[i].f0 C[i].f1 C[i].f2 C[i].f3 C[i].f4 C[i].f5).length < _; omega), w64 ((i : Int) + 1) (by omega) (by omega)]
      obtain ⟨b, e, h1, h2⟩ := ih (i + 1) k (l ++ bytesI C[i].f0 C[i].f1 C[i].f2 C[i].f3 C[i].f4 C[i].f5) (by omega) (by rw [List.length_append]; omega) (by omega)
      refine ⟨b, e, by exact_mod_cast h1, fun he => ?_⟩
      rw [h2 he, List.drop_eq_getElem_cons hil, List.flatMap_cons, List.append_assoc]
      rfl
    · rw [Option.bind_some, if_neg (by decide)]
      exact ⟨_, _, rfl, fun h => absurd h (by decide)⟩
theorem enc_l0 (C : List S26) (A : List S33) (st mem : Int) (hC : C.length ≤ 100) (hA : A.length ≤ 100) : ∀ (m i k : Nat) (l : List Int), i + m = A.length → l.length ≤ 100 + 8 * i → 300 + m ≤ k →
    ∃ b e, image_Encode.l0 k l A (A.length : Int) (i : Int) C A st mem = some (b, e) ∧ (e = 0 → b = l ++ ((A.drop i).flatMap encA ++ (n4 C.length ++ C.flatMap encC))) := by
  intro m
  induction m with
  | zero =>
    intro i k l hi hl hk
    obtain ⟨k, rfl⟩ : ∃ j, k = j + 1 := ⟨k - 1, by omega⟩
    rw [image_Encode.l0, if_neg (by omega), put_eq _ _ (by omega), Option.bind_some]
    obtain ⟨b, e, h1, h2⟩ := enc_l1 C hC C.length 0 k (l ++ n4 C.length) (by omega) (by rw [List.length_append, n4_len]; omega) (by omega)
    refine ⟨b, e, h1, fun he => ?_⟩
    rw [h2 he, List.drop_of_length_le (show A.length ≤ i by omega)]
    simp
  | succ m ih =>
    intro i k l hi hl hk
    obtain ⟨k, rfl⟩ : ∃ j, k = j + 1 := ⟨k - 1, by omega⟩
    have hil : i < A.length := by omega
    rw [image_Encode.l0, if_pos (by omega), if_pos (by omega), if_pos (by omega), rd33_get hil, put_eq _ _ (by omega), Option.bind_some, put_eq _ _ (by rw [List.length_append, n4_len]; omega), Option.bind_some, w64 ((i : Int) + 1) (by omega) (by omega)]
    obtain ⟨b, e, h1, h2⟩ := ih (i + 1) k ((l ++ n4 A[i].f1) ++ n4 A[i].f2) (by omega) (by rw [List.length_append, List.length_append, n4_len, n4_len]; omega) (by omega)
    refine ⟨b, e, by exact_mod_cast h1, fun he => ?_⟩
    rw [h2 he, List.drop_eq_getElem_cons hil, List.flatMap_cons]
    show _ = l ++ ((n4 A[i].f1 ++ n4 A[i].f2) ++ _ ++ _)
    simp only [List.append_assoc]
/-- What image.Encode answers. -/
theorem enc_total (C : List S26) (A : List S33) (st mem : Int) (hC : C.length ≤ 100) (hA : A.length ≤ 100) (k : Nat) (hk : 1000 ≤ k) : ∃ b e, image_Encode.f k C A st mem = some (b, e) ∧ (e = 0 → b = encI C A st mem) := by
  obtain ⟨t, ht⟩ := right_total C A st mem (by omega) (by omega) k (by omega)
  unfold image_Encode.f
  rw [ht, Option.bind_some]
  split
  · rw [put_eq _ _ (by decide), Option.bind_some, put_eq _ _ (by simp [n4_len]), Option.bind_some, put_eq _ _ (by simp [n4_len]), Option.bind_some]
    obtain ⟨b, e, h1, h2⟩ := enc_l0 C A st mem hC hA A.length 0 k ((([112, 97, 108, 49] ++ n4 mem) ++ n4 st) ++ n4 A.length) (by omega) (by simp [n4_len]) (by omega)
    refine ⟨b, e, h1, fun he => ?_⟩
    rw [h2 he]
    unfold encI
    simp only [List.append_assoc, List.drop_zero]
  · exact ⟨_, _, rfl, fun h => absurd h (by decide)⟩

theorem same_l1 (C C' : List S26) (A A' : List S33) (st mem st' mem' : Int) (hl : A.length = A'.length) (hA : A.length ≤ 40000) : ∀ (m i k : Nat), i + m = A.length → m < k →
    ∃ t, palingslaw18_same.l1 k (A.length : Int) (i : Int) C A st mem C' A' st' mem' = some t ∧ (t = true → A.drop i = A'.drop i) := by
  intro m
  induction m with
  | zero =>
    intro i k hi hk
    obtain ⟨k, rfl⟩ : ∃ j, k = j + 1 := ⟨k - 1, by omega⟩
    rw [palingslaw18_same.l1, if_neg (by omega)]
    exact ⟨_, rfl, fun _ => by rw [List.drop_of_length_le (by omega), List.drop_of_length_le (by omega)]⟩
  | succ m ih =>
    intro i k hi hk
    obtain ⟨k, rfl⟩ : ∃ j, k = j + 1 := ⟨k - 1, by omega⟩
    have h1 : i < A.length := by omega
    have h2 : i < A'.length := by omega
    rw [palingslaw18_same.l1, if_pos (by omega), if_pos (by omega), if_pos (by omega), if_pos (by omega), rd33_get h1, rd33_get h2, w64 ((i : Int) + 1) (by omega) (by omega)]
    split
    · exact ⟨_, rfl, fun h => by cases h⟩
    · next hne =>
      obtain ⟨t, h3, h4⟩ := ih (i + 1) k (by omega) (by omega)
      refine ⟨t, by exact_mod_cast h3, fun ht => ?_⟩
      rw [List.drop_eq_getElem_cons h1, List.drop_eq_getElem_cons h2, h4 ht]
      congr 1
      simp only [Bool.not_eq_true, Bool.or_eq_false_iff, Bool.not_eq_false', beq_iff_eq] at hne
      obtain ⟨e0, e1, e2⟩ := hne
      cases h5 : A[i]
      cases h6 : A'[i]
      rw [h5, h6] at e0 e1 e2
      simp only at e0 e1 e2
      rw [e0, e1, e2]
theorem same_l0 (C C' : List S26) (A A' : List S33) (st mem st' mem' : Int) (hc : C.length = C'.length) (hl : A.length = A'.length) (hC : C.length ≤ 40000) (hA : A.length ≤ 40000) : ∀ (m i k : Nat), i + m = C.length → m + A.length + 1 < k →
    ∃ t, palingslaw18_same.l0 k (C.length : Int) (i : Int) C A st mem C' A' st' mem' = some t ∧ (t = true → C.drop i = C'.drop i ∧ A = A') := by
  intro m
  induction m with
  | zero =>
    intro i k hi hk
    obtain ⟨k, rfl⟩ : ∃ j, k = j + 1 := ⟨k - 1, by omega⟩
    rw [palingslaw18_same.l0, if_neg (by omega)]
    obtain ⟨t, h1, h2⟩ := same_l1 C C' A A' st mem st' mem' hl hA A.length 0 k (by omega) (by omega)
    exact ⟨t, h1, fun ht => ⟨by rw [List.drop_of_length_le (by omega), List.drop_of_length_le (by omega)], h2 ht⟩⟩
  | succ m ih =>
    intro i k hi hk
    obtain ⟨k, rfl⟩ : ∃ j, k = j + 1 := ⟨k - 1, by omega⟩
    have h1 : i < C.length := by omega
    have h2 : i < C'.length := by omega
    rw [palingslaw18_same.l0, if_pos (by omega), if_pos (by omega), if_pos (by omega), if_pos (by omega), rd26_get h1, rd26_get h2, w64 ((i : Int) + 1) (by omega) (by omega)]
    split
    · exact ⟨_, rfl, fun h => by cases h⟩
    · next hne =>
      obtain ⟨t, h3, h4⟩ := ih (i + 1) k (by omega) (by omega)
      refine ⟨t, by exact_mod_cast h3, fun ht => ?_⟩
      obtain ⟨h5, h6⟩ := h4 ht
      refine ⟨?_, h6⟩
      rw [List.drop_eq_getElem_cons h1, List.drop_eq_getElem_cons h2, h5]
      congr 1
      simp only [Bool.not_eq_true, Bool.or_eq_false_iff, Bool.not_eq_false', beq_iff_eq] at hne
      obtain ⟨e0, e1, e2, e3, e4, e5⟩ := hne
      cases h7 : C[i]
      cases h8 : C'[i]
      rw [h7, h8] at e0 e1 e2 e3 e4 e5
      simp only at e0 e1 e2 e3 e4 e5
      rw [e0, e1, e2, e3, e4, e5]
theorem same_total (C C' : List S26) (A A' : List S33) (st mem st' mem' : Int) (hC : C.length ≤ 40000) (hA : A.length ≤ 40000) (k : Nat) (hk : C.length + A.length + 5 < k) :
    ∃ t, palingslaw18_same.f k C A st mem C' A' st' mem' = some t ∧ (t = true → C = C' ∧ A = A' ∧ st = st' ∧ mem = mem') := by
  obtain ⟨k, rfl⟩ : ∃ j, k = j + 1 := ⟨k - 1, by omega⟩
  have hj : palingslaw18_same.j0 (k + 1) true C A st mem C' A' st' mem' = some false := by rw [palingslaw18_same.j0, if_pos rfl]
  unfold palingslaw18_same.f
  split
  · next h1 =>
    split
    · next h2 =>
      split
      · next h3 =>
        rw [palingslaw18_same.j0]
        split
        · exact ⟨_, rfl, fun h => by cases h⟩
        · next h4 =>
          have h4 : (A.length : Int) = A'.length := by simpa using h4
          obtain ⟨t, g1, g2⟩ := same_l0 C C' A A' st mem st' mem' (by omega) (by omega) hC hA C.length 0 k (by omega) (by omega)
          exact ⟨t, g1, fun ht => ⟨(g2 ht).1, (g2 ht).2, h2, h1⟩⟩
      · exact ⟨_, hj, fun h => by cases h⟩
    · exact ⟨_, hj, fun h => by cases h⟩
  · exact ⟨_, hj, fun h => by cases h⟩
theorem few_total (C : List S26) (A : List S33) (st mem : Int) : ∃ t, palingslaw18_few.f C A st mem = some t ∧ (t = true → C.length ≤ 60 ∧ A.length ≤ 80) := by
  unfold palingslaw18_few.f
  split
  · exact ⟨_, rfl, fun h => by simp at h; omega⟩
  · exact ⟨_, rfl, fun h => by cases h⟩
theorem head_20 : palingslaw18_head.f 20 = some true := by decide +kernel
theorem head_k (k : Nat) (hk : 20 ≤ k) : palingslaw18_head.f k = some true := LeO.le (f := fun k => palingslaw18_head.f k) (fun k => palingslaw18_head.mono k) hk head_20
end Go.Proofs.Yteabbcnoamhofaa.B
