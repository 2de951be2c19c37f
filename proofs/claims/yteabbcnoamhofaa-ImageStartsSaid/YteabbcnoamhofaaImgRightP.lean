/- The law's own right is told; and what it tells of the arrays. Then: what stands in a memory at the beginning. -/
import Derived.Test.YteabbcnoamhofaaBx9
import Derived.Test.YteabbcnoamhofaaImgWords
namespace Go.Proofs.Yteabbcnoamhofaa.B
open Go.RowKit Go.Proofs.Yteabbcnoamhofaa.Mine Go.Proofs.Yteabbcnoamhofaa.Sep Go.Proofs.Yteabbcnoamhofaa.Copy Go.Proofs.YteabbcnoamhofaaW.PrintWords Go.Proofs.YteabbcnoamhofaaW.PrintLast Go.Proofs.YteabbcnoamhofaaW.PrintMore
set_option linter.unusedVariables false
set_option linter.unusedSimpArgs false
/-- Arrays one behind the other, from e on, to fin. -/
def Chain : Int → List S33 → Int → Prop
  | e, [], fin => e = fin
  | e, a :: r, fin => a.f0 = e ∧ 1 ≤ a.f1 ∧ a.f1 ≤ 4096 ∧ Chain (e + a.f1) r fin
theorem r18_l1 (C : List S26) (A : List S33) (st mem : Int) (hC : C.length ≤ 40000) : ∀ (m i k : Nat) (x : Int), i + m = C.length → m < k → ∃ t, palingslaw18_right.l1 k x C (C.length : Int) (i : Int) C A st mem = some t ∧ (t = true → x ≤ st) := by
  intro m
  induction m with
  | zero =>
    intro i k x hi hk
    obtain ⟨k, rfl⟩ : ∃ j, k = j + 1 := ⟨k - 1, by omega⟩
    rw [palingslaw18_right.l1, if_neg (by omega)]
    exact ⟨_, rfl, fun h => of_decide_eq_true h⟩
  | succ m ih =>
    intro i k x hi hk
    obtain ⟨k, rfl⟩ : ∃ j, k = j + 1 := ⟨k - 1, by omega⟩
    have hf : ∃ t, some false = some t ∧ (t = true → x ≤ st) := ⟨false, rfl, fun h => by cases h⟩
    obtain ⟨t, ht, hx⟩ := ih (i + 1) k x (by omega) (by omega)
    have hn : ∃ t, palingslaw18_right.l1 k x C (C.length : Int) ((i : Int) + 1) C A st mem = some t ∧ (t = true → x ≤ st) := ⟨t, by exact_mod_cast ht, hx⟩
    rw [palingslaw18_right.l1, if_pos (by omega), if_pos (by omega), if_pos (by omega), w64 ((i : Int) + 1) (by omega) (by omega)]
    split
    · rw [code_Ins_Right.f, Option.bind_some]
      split
      · split
        · exact hf
        · exact hn
      · exact hf
    split
    · rw [code_Ins_Right.f, Option.bind_some]
      split
      · split
        · exact hf
        · exact hn
      · exact hf
    · rw [code_Ins_Right.f, Option.bind_some]
      split
      · split
        · split
          · exact hf
          · exact hn
        · exact hn
      · exact hf
theorem r18_l0 (C : List S26) (A : List S33) (st mem : Int) (hC : C.length ≤ 40000) (hA : A.length ≤ 40000) : ∀ (m i k : Nat) (x : Int), i + m = A.length → m + C.length + 1 < k → 0 ≤ x → x ≤ 4096 * i → ∃ t, palingslaw18_right.l0 k x A (A.length : Int) (i : Int) C A st mem = some t ∧ (t = true → ∃ fin, Chain x (A.drop i) fin ∧ fin ≤ st) := by
  intro m
  induction m with
  | zero =>
    intro i k x hi hk x0 x1
    obtain ⟨k, rfl⟩ : ∃ j, k = j + 1 := ⟨k - 1, by omega⟩
    rw [palingslaw18_right.l0, if_neg (by omega)]
    obtain ⟨t, ht, hx⟩ := r18_l1 C A st mem hC C.length 0 k x (by omega) (by omega)
    exact ⟨t, by exact_mod_cast ht, fun h => ⟨x, by rw [List.drop_of_length_le (by omega)]; rfl, hx h⟩⟩
  | succ m ih =>
    intro i k x hi hk x0 x1
    obtain ⟨k, rfl⟩ : ∃ j, k = j + 1 := ⟨k - 1, by omega⟩
    have hf : ∃ t, some false = some t ∧ (t = true → ∃ fin, Chain x (A.drop i) fin ∧ fin ≤ st) := ⟨false, rfl, fun h => by cases h⟩
    have hlt : i < A.length := by omega
    have hrd : rd_T33 A (i : Int) = A[i] := by unfold rd_T33; rw [Int.toNat_natCast, List.getD_eq_getElem?_getD, List.getElem?_eq_getElem hlt]; rfl
    rw [palingslaw18_right.l0, if_pos (by omega), if_pos (by omega), if_pos (by omega), w64 ((i : Int) + 1) (by omega) (by omega)]
    split
    · rename_i e0
      split
      · exact hf
      split
      · exact hf
      rename_i e1 e2
      split
      · exact hf
      split
      · exact hf
      rw [hrd] at e0 e1 e2 ⊢
      rw [w64 (x + A[i].f1) (by omega) (by omega)]
      obtain ⟨t, ht, hx⟩ := ih (i + 1) k (x + A[i].f1) (by omega) (by omega) (by omega) (by push_cast; omega)
      refine ⟨t, by exact_mod_cast ht, fun h => ?_⟩
      obtain ⟨fin, hc, hfin⟩ := hx h
      rw [List.drop_eq_getElem_cons hlt]
      exact ⟨fin, ⟨e0, by omega, by omega, hc⟩, hfin⟩
    · exact hf
structure Right18 (A : List S33) (st mem : Int) : Prop where
  a1 : A.length ≤ 64
  s0 : 0 ≤ st
  s1 : st ≤ mem
  m1 : mem ≤ 1048576
  chain : ∃ fin, Chain 0 A fin ∧ fin ≤ st
theorem r18_total (C : List S26) (A : List S33) (st mem : Int) (hC : C.length ≤ 40000) (hA : A.length ≤ 40000) (k : Nat) (hk : A.length + C.length + 5 < k) : ∃ t, palingslaw18_right.f k C A st mem = some t ∧ (t = true → Right18 A st mem) := by
  obtain ⟨k, rfl⟩ : ∃ j, k = j + 1 := ⟨k - 1, by omega⟩
  have hb : ∃ t, palingslaw18_right.j0 (k + 1) true C A st mem = some t ∧ (t = true → Right18 A st mem) := ⟨false, by rw [palingslaw18_right.j0, if_pos rfl], fun h => by cases h⟩
  unfold palingslaw18_right.f
  split
  · exact hb
  split
  · exact hb
  split
  · exact hb
  split
  · exact hb
  rename_i g1 g2 g3 g4
  by_cases hm : mem > 1048576
  · rw [decide_eq_true hm]; exact hb
  · rw [decide_eq_false hm, palingslaw18_right.j0, if_neg (by decide)]
    obtain ⟨t, ht, hx⟩ := r18_l0 C A st mem hC hA A.length 0 k 0 (by omega) (by omega) (Int.le_refl _) (by omega)
    refine ⟨t, by exact_mod_cast ht, fun h => ?_⟩
    obtain ⟨fin, hc, hfin⟩ := hx h
    exact ⟨by omega, by omega, by omega, by omega, fin, hc, hfin⟩
theorem Chain.le : ∀ {A : List S33} {e fin : Int}, Chain e A fin → e ≤ fin
  | [], _, _, h => by cases h; exact Int.le_refl _
  | a :: r, e, fin, h => by have := Chain.le h.2.2.2; have := h.2.1; omega
theorem Chain.lies : ∀ {A : List S33} {e fin : Int}, 0 ≤ e → Chain e A fin → ∀ a ∈ A, Lies fin a ∧ e ≤ a.f0
  | [], _, _, _, _, a, ha => by cases ha
  | b :: r, e, fin, h0, h, a, ha => by
    obtain ⟨h1, h2, h3, h4⟩ := h
    have hl := Chain.le h4
    rcases List.mem_cons.1 ha with rfl | ha
    · exact ⟨⟨by omega, h2, h3, by omega⟩, by omega⟩
    · obtain ⟨g1, g2⟩ := Chain.lies (by omega) h4 a ha
      exact ⟨g1, by omega⟩
theorem Chain.split : ∀ {A B : List S33} {e fin : Int}, Chain e (A ++ B) fin → ∃ mid, Chain e A mid ∧ Chain mid B fin
  | [], B, e, fin, h => ⟨e, rfl, h⟩
  | a :: r, B, e, fin, h => by
    obtain ⟨h1, h2, h3, h4⟩ := h
    obtain ⟨mid, g1, g2⟩ := Chain.split (A := r) h4
    exact ⟨mid, ⟨h1, h2, h3, g1⟩, g2⟩
/-- How many arrays get an input. -/
def asks (A : List S33) : Nat := (A.filter fun a => decide (a.f2 ≠ 0)).length
theorem startL_append (ins : List (List Int)) : ∀ (A B : List S33) (out : List Int) (n : Nat), startL ins (A ++ B) out n = startL ins B (startL ins A out n) (n + asks A)
  | [], B, out, n => rfl
  | a :: r, B, out, n => by
    rw [List.cons_append, startL, startL]
    by_cases h : a.f2 = 0
    · rw [if_pos h, if_pos h, startL_append ins r]
      congr 1
      unfold asks
      rw [List.filter_cons_of_neg (by simpa using h)]
    · rw [if_neg h, if_neg h, startL_append ins r]
      congr 1
      unfold asks
      rw [List.filter_cons_of_pos (by simpa using h), List.length_cons]
      omega
/-- Below and above of the arrays nothing is written. -/
theorem startL_off (ins : List (List Int)) (p : Nat) : ∀ (A : List S33) (e fin : Int) (out : List Int) (n : Nat), 0 ≤ e → Chain e A fin → ((p : Int) < e ∨ fin ≤ (p : Int)) → (startL ins A out n)[p]? = out[p]?
  | [], _, _, _, _, _, _, _ => rfl
  | a :: r, e, fin, out, n, h0, h, hp => by
    obtain ⟨h1, h2, h3, h4⟩ := h
    have hl := Chain.le h4
    rw [startL]
    split
    · exact startL_off ins p r _ _ _ _ (by omega) h4 (by omega)
    · rw [startL_off ins p r _ _ _ _ (by omega) h4 (by omega)]
      split
      · rw [over_out _ _ _ _ (by have : ((ins.getD n []).take a.f1.toNat).length ≤ a.f1.toNat := by rw [List.length_take]; omega
                                 omega)]
      · rfl
/-- The word at place j of the array a, of which n arrays ahead ask for inputs. -/
def wantF (ins : List (List Int)) (a : S33) (n : Nat) (j : Nat) : Int := if a.f2 ≠ 0 ∧ n < ins.length then (ins.getD n []).getD j 0 else 0
theorem start_at (ins : List (List Int)) (A B : List S33) (a : S33) (mem fin : Int) (hc : Chain 0 (A ++ a :: B) fin) (hm : fin ≤ mem) (j : Nat) (hj : (j : Int) < a.f1) :
    rd (startF ins (A ++ a :: B) mem) (a.f0 + j) = wantF ins a (asks A) j := by
  obtain ⟨mid, c1, c2⟩ := Chain.split hc
  obtain ⟨h1, h2, h3, h4⟩ := c2
  have m0 := Chain.le c1
  have m1 := Chain.le h4
  have hp : (a.f0 + (j : Int)).toNat = a.f0.toNat + j := by omega
  have hl : (startL ins A (List.replicate mem.toNat 0) 0).length = mem.toNat := by rw [startL_length, List.length_replicate]
  have hz : (startL ins A (List.replicate mem.toNat 0) 0)[a.f0.toNat + j]? = some 0 := by
    rw [startL_off ins _ A 0 mid _ _ (Int.le_refl _) c1 (by omega), List.getElem?_replicate, if_pos (by omega)]
  unfold rd startF
  rw [List.getD_eq_getElem?_getD, hp, startL_append, startL]
  unfold wantF
  by_cases hh : a.f2 = 0
  · rw [if_pos hh, if_neg (fun h => h.1 hh), startL_off ins _ B _ fin _ _ (by omega) h4 (by omega), hz]
    rfl
  · rw [if_neg hh, startL_off ins _ B _ fin _ _ (by omega) h4 (by omega), Nat.zero_add]
    by_cases hn : asks A < ins.length
    · rw [if_pos hn, if_pos ⟨hh, hn⟩]
      by_cases hjl : j < (ins.getD (asks A) []).length
      · rw [over_in _ _ _ _ (by rw [List.length_take]; omega) (by rw [hl]; omega), List.getElem?_take, if_pos (by omega), ← List.getD_eq_getElem?_getD]
      · rw [over_out _ _ _ _ (by rw [List.length_take]; omega), hz, List.getD_eq_getElem?_getD, List.getElem?_eq_none (by omega)]
        rfl
    · rw [if_neg hn, if_neg (fun h => hn h.2), hz]
      rfl
theorem start_end (ins : List (List Int)) (A : List S33) (mem fin : Int) (hc : Chain 0 A fin) (p : Int) (h0 : fin ≤ p) (h1 : p < mem) : rd (startF ins A mem) p = 0 := by
  have := Chain.le hc
  unfold rd startF
  rw [List.getD_eq_getElem?_getD, startL_off ins p.toNat A 0 fin _ _ (Int.le_refl _) hc (by omega), List.getElem?_replicate, if_pos (by omega)]
  rfl
/-- A word of an array's words in a memory. -/
theorem words_at (mem : List Int) (a : S33) (h0 : 0 ≤ a.f0) (j : Nat) (hj : (j : Int) < a.f1) : rd (wordsOf mem a) (j : Int) = if a.f0 + j < (mem.length : Int) then rd mem (a.f0 + j) else 0 := by
  unfold rd wordsOf
  rw [Int.toNat_natCast, List.getD_eq_getElem?_getD]
  have hr : (List.replicate a.f1.toNat (0 : Int))[j]? = some 0 := by rw [List.getElem?_replicate, if_pos (by omega)]
  by_cases h : a.f0 < (mem.length : Int)
  · rw [if_pos h]
    by_cases hj2 : a.f0 + j < (mem.length : Int)
    · have := over_in ((mem.drop a.f0.toNat).take a.f1.toNat) (List.replicate a.f1.toNat (0 : Int)) 0 j (by rw [List.length_take, List.length_drop]; omega) (by rw [List.length_replicate]; omega)
      rw [Nat.zero_add] at this
      rw [this, if_pos hj2, List.getElem?_take, if_pos (by omega), List.getElem?_drop, List.getD_eq_getElem?_getD, show (a.f0 + (j : Int)).toNat = a.f0.toNat + j by omega]
    · rw [over_out _ _ _ _ (by rw [List.length_take, List.length_drop]; omega), hr, if_neg hj2]
      rfl
  · rw [if_neg h, hr, if_neg (by omega)]
    rfl
theorem wordsOf_length (mem : List Int) (a : S33) : (wordsOf mem a).length = a.f1.toNat := by
  unfold wordsOf
  split
  · rw [over_length, List.length_replicate]
  · rw [List.length_replicate]
end Go.Proofs.Yteabbcnoamhofaa.B
