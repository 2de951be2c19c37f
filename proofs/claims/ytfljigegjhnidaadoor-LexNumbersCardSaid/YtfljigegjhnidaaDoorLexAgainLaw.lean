/- Tokens written again, with a blank behind each, are the same tokens: the law LexAgain for every text. -/
import Derived.Test.YtfljigegjhnidaaDoorLexSpec3
import Derived.Test.YtfljigegjhnidaaDoorLexAgainW
namespace Go.Proofs.YtfljigegjhnidaaDoor.B
open Go.RowKit Go.Proofs.YtfljigegjhnidaaDoorW.PrintWords Go.Proofs.YtfljigegjhnidaaDoorW.PrintLast Go.Proofs.YtfljigegjhnidaaDoorW.PrintMore
set_option linter.unusedVariables false
set_option linter.unusedSimpArgs false

theorem LexR.ws {x : UInt8} {r : List UInt8} {p : Int × Int} {ts : List S34} {e : Int} {q : Int × Int} (hw : wsB x = true) (h : LexR r (adv1 p x) ts e q) : LexR (x :: r) p ts e q := by
  cases h with
  | stop _ _ b hb h => exact .stop (x :: r) p (b + 1) (.ws x r b hw hb) (by simpa using h)
  | err _ _ b _ hb h => exact .err (x :: r) p (b + 1) e (.ws x r b hw hb) (by simpa using h)
  | tok _ _ b t ts _ _ hb hne h hr => exact .tok (x :: r) p (b + 1) t ts e q (.ws x r b hw hb) (by simpa using hne) (by simpa using h) hr

def again (ts : List S34) : List UInt8 := ts.flatMap fun t => By t.f1 ++ [32]
def key (t : S34) : Int × ByteArray × Int := (t.f0, t.f1, t.f2)
theorem again_cons (t : S34) (ts : List S34) : again (t :: ts) = By t.f1 ++ 32 :: again ts := by simp [again]
theorem again_append (a b : List S34) : again (a ++ b) = again a ++ again b := by simp [again]
theorem mark_again (z y : List UInt8) : ∀ L : List (List UInt8), (∀ m ∈ L, (32 : UInt8) ∉ m) → firstOf L y ≠ [] → firstOf L (firstOf L y ++ 32 :: z) = firstOf L y
  | [], _, h => absurd rfl h
  | m :: L, hL, h => by
    have e : ∀ w, firstOf (m :: L) w = if m.isPrefixOf w = true then m else firstOf L w := by
      intro w
      unfold firstOf
      rw [List.find?_cons]
      cases m.isPrefixOf w <;> simp
    by_cases hm : m.isPrefixOf y = true
    · have e1 : firstOf (m :: L) y = m := by rw [e, if_pos hm]
      rw [e1, e, if_pos (List.isPrefixOf_iff_prefix.mpr (List.prefix_append _ _))]
    · have e1 : firstOf (m :: L) y = firstOf L y := by rw [e, if_neg hm]
      rw [e1] at h ⊢
      have hno : ¬ m.isPrefixOf (firstOf L y ++ 32 :: z) = true := by
        intro hp
        have hp := List.isPrefixOf_iff_prefix.mp hp
        rcases Nat.lt_or_ge (firstOf L y).length m.length with hl | hl
        rotate_left
        · exact hm (List.isPrefixOf_iff_prefix.mpr ((List.prefix_of_prefix_length_le hp (List.prefix_append _ _) hl).trans (firstOf_prefix L y)))
        · have h2 := List.prefix_of_prefix_length_le (show firstOf L y ++ [32] <+: firstOf L y ++ 32 :: z from ⟨z, by simp⟩) hp (by simp; omega)
          exact hL m (List.mem_cons_self ..) (h2.subset (by simp))
      rw [e, if_neg hno]
      exact mark_again z y L (fun m hm => hL m (List.mem_cons_of_mem _ hm)) h
theorem all_takeWhile' (p : UInt8 → Bool) : ∀ (l : List UInt8) (a : UInt8), a ∈ l.takeWhile p → p a = true
  | [], _, h => by cases h
  | x :: l, a, h => by
    rw [List.takeWhile_cons] at h
    split at h
    · next hx =>
      rcases List.mem_cons.mp h with rfl | h
      · exact hx
      · exact all_takeWhile' p l a h
    · cases h
theorem take_again (p : UInt8 → Bool) (hp : p 32 = false) (y z : List UInt8) : (y.takeWhile p ++ 32 :: z).takeWhile p = y.takeWhile p := by
  rw [List.takeWhile_append_of_pos (fun a ha => all_takeWhile' p y a ha), List.takeWhile_cons, if_neg (by simp [hp]), List.append_nil]
theorem tok_again {y : List UInt8} {t : Int × List UInt8 × Int} (hy : y ≠ []) (h : tokOf y = .inr t) (z : List UInt8) : tokOf (t.2.1 ++ 32 :: z) = .inr t := by
  obtain ⟨h1, _, h3⟩ := tokOf_ne hy h
  cases y with
  | nil => exact absurd rfl hy
  | cons x y =>
    obtain ⟨tx, htx⟩ : ∃ tx, t.2.1 = x :: tx := by
      obtain ⟨w, hw⟩ := h3
      cases h2 : t.2.1 with
      | nil => exact absurd h2 h1
      | cons a tx => rw [h2] at hw; injection hw with hw _; exact ⟨tx, by rw [hw]⟩
    rw [htx, List.cons_append, tokOf_cons]
    rw [tokOf_cons] at h
    by_cases hl : letterB x = true
    · rw [if_pos hl] at h ⊢
      injection h with h
      have h4 : (x :: y).takeWhile (runB true) = x :: tx := by rw [← htx, ← h]
      have h5 : (x :: (tx ++ 32 :: z)).takeWhile (runB true) = x :: tx := by
        have := take_again (runB true) (by decide) (x :: y) z
        rwa [h4, List.cons_append] at this
      rw [h5, ← h, h4]
    · rw [if_neg hl] at h ⊢
      by_cases hd : digitB x = true
      · rw [if_pos hd] at h ⊢
        cases hv : valL ((x :: y).takeWhile (runB false)) 0 with
        | none => rw [hv] at h; cases h
        | some v =>
          rw [hv] at h
          injection h with h
          have h4 : (x :: y).takeWhile (runB false) = x :: tx := by rw [← htx, ← h]
          have h5 : (x :: (tx ++ 32 :: z)).takeWhile (runB false) = x :: tx := by
            have := take_again (runB false) (by decide) (x :: y) z
            rwa [h4, List.cons_append] at this
          rw [h5]
          rw [h4] at hv h
          rw [hv, ← h]
      · rw [if_neg hd] at h ⊢
        by_cases hf : firstOf markList (x :: y) = []
        · rw [if_pos hf] at h; cases h
        · rw [if_neg hf] at h
          injection h with h
          have h4 : firstOf markList (x :: y) = x :: tx := by rw [← htx, ← h]
          have h5 := mark_again z (x :: y) markList (by decide) hf
          rw [h4, List.cons_append] at h5
          rw [h5, if_neg (by simp), ← h, h4]
theorem blank_again {y : List UInt8} {tx : List UInt8} (h1 : ∀ x t, y = x :: t → wsB x = false) (h2 : remB y = false) (hne : tx ≠ []) (hp : tx <+: y) (z : List UInt8) : Blank (tx ++ 32 :: z) 0 := by
  refine .stop _ (fun x t e => ?_) ?_
  · cases tx with
    | nil => exact absurd rfl hne
    | cons a tx =>
      obtain ⟨w, hw⟩ := hp
      injection e with e _
      rw [← e]
      exact h1 a (tx ++ w) hw.symm
  · rw [Bool.eq_false_iff]
    intro hr
    have hr := List.isPrefixOf_iff_prefix.mp hr
    match tx, hne, hp with
    | [a], _, _ =>
      obtain ⟨w, hw⟩ := hr
      simp at hw
    | a :: b :: tx, _, hp =>
      have h3 := List.prefix_of_prefix_length_le hr (List.prefix_append (a :: b :: tx) _) (by simp)
      rw [show remB y = true from List.isPrefixOf_iff_prefix.mpr (h3.trans hp)] at h2
      cases h2
theorem again_lex {r : List UInt8} {p : Int × Int} {ts : List S34} {e : Int} {q : Int × Int} (h : LexR r p ts e q) : e = 0 → ∀ p', ∃ ts', LexR (again ts) p' ts' 0 (0, 0) ∧ ts'.map key = ts.map key := by
  induction h with
  | stop r p b hb h =>
    intro _ p'
    refine ⟨_, LexR.ws (x := 32) (r := []) rfl (.stop [] _ 0 (.stop _ (fun x t h => by cases h) rfl) rfl), rfl⟩
  | err r p b e hb h =>
    intro he
    rcases tokOf_err h with h | h <;> omega
  | tok r p b t ts e q hb hne h hr ih =>
    intro he p'
    obtain ⟨h1, h2, h3⟩ := tokOf_ne hne h
    obtain ⟨hw, hrem⟩ := hb.rest
    obtain ⟨ts', hl, hk⟩ := ih he (adv1 (adv (adv p' []) t.2.1) 32)
    refine ⟨tk t.1 t.2.1 t.2.2 (adv p' []) :: ts', ?_, ?_⟩
    · rw [again_cons]
      refine .tok _ p' 0 t ts' 0 (0, 0) (blank_again hw hrem h1 h3 _) ?_ (tok_again hne h _) ?_
      · simp
      · rw [List.drop_zero, show By (tk t.1 t.2.1 t.2.2 (adv p (r.take b))).f1 = t.2.1 from rfl, List.drop_left]
        exact LexR.ws rfl hl
    · rw [List.map_cons, List.map_cons, hk]
      rfl
theorem again_len {r : List UInt8} {p : Int × Int} {ts : List S34} {e : Int} {q : Int × Int} (h : LexR r p ts e q) : (again ts).length ≤ 2 * r.length + 1 ∧ ts.length ≤ r.length + 1 := by
  induction h with
  | stop r p b hb h => exact ⟨by simp [again, tk], by simp⟩
  | err r p b e hb h => exact ⟨by simp [again], by simp⟩
  | tok r p b t ts e q hb hne h hr ih =>
    obtain ⟨h1, _, h3⟩ := tokOf_ne hne h
    have h0 : 0 < t.2.1.length := List.length_pos_iff.mpr h1
    have hl := h3.length_le
    rw [List.length_drop, List.length_drop] at ih
    rw [List.length_drop] at hl
    have hble := hb.le
    rw [again_cons, List.length_append, List.length_cons, List.length_cons, show By (tk t.1 t.2.1 t.2.2 (adv p (r.take b))).f1 = t.2.1 from rfl]
    omega

theorem getD_key (a b : List S34) (h : a.map key = b.map key) (j : Nat) : key (a.getD j z34) = key (b.getD j z34) := by
  have h1 : ∀ l : List S34, key (l.getD j z34) = (l.map key).getD j (key z34) := by
    intro l
    simp only [List.getD_eq_getElem?_getD, List.getElem?_map]
    cases l[j]? <;> rfl
  rw [h1, h1, h]
theorem again_l1 (ts ts' : List S34) (h : ts'.map key = ts.map key) (hn : ts.length ≤ 70000) : ∀ (m j k : Nat), j + m = ts.length → m < k → palingslaw02_LexAgain.l1 k ts ts' (ts.length : Int) j = some true := by
  have hlen : ts'.length = ts.length := by have := congrArg List.length h; simpa using this
  intro m
  induction m with
  | zero =>
    intro j k hj hk
    obtain ⟨k, rfl⟩ : ∃ i, k = i + 1 := ⟨k - 1, by omega⟩
    unfold palingslaw02_LexAgain.l1
    rw [if_neg (by omega)]
  | succ m ih =>
    intro j k hj hk
    obtain ⟨k, rfl⟩ : ∃ i, k = i + 1 := ⟨k - 1, by omega⟩
    have hkey := getD_key ts' ts h j
    simp only [key, Prod.mk.injEq] at hkey
    have e1 : rd_T34 ts' (j : Int) = ts'.getD j z34 := by unfold rd_T34; rw [Int.toNat_natCast]
    have e2 : rd_T34 ts (j : Int) = ts.getD j z34 := by unfold rd_T34; rw [Int.toNat_natCast]
    unfold palingslaw02_LexAgain.l1
    rw [e1, e2, if_pos (by omega), if_pos (by omega), if_pos (by omega), if_pos (by omega), if_pos hkey.1, if_pos (by rw [hkey.2.1]), if_pos hkey.2.2, wrap_small (n := (j : Int) + 1) (by omega) (by omega)]
    exact ih (j + 1) k (by omega) (by omega)
theorem by_append (a b : ByteArray) : By (a ++ b) = By a ++ By b := by simp [By]
theorem again_l0 (ts ts' : List S34) (h : ts'.map key = ts.map key) (hn : ts.length ≤ 70000) (hl : (again ts).length ≤ 60000) (hall : ∀ k, 300000 ≤ k → lex_All.f k ⟨(again ts).toArray⟩ = some (ts', 0, 0, 0)) :
    ∀ (m j k : Nat) (x : ByteArray), j + m = ts.length → By x = again (ts.take j) → 400000 + m ≤ k → palingslaw02_LexAgain.l0 k ts x ts (ts.length : Int) j = some true := by
  have hlen : ts'.length = ts.length := by have := congrArg List.length h; simpa using this
  intro m
  induction m with
  | zero =>
    intro j k x hj hx hk
    obtain ⟨k, rfl⟩ : ∃ i, k = i + 2 := ⟨k - 2, by omega⟩
    rw [List.take_of_length_le (by omega)] at hx
    rw [arr_of hx]
    unfold palingslaw02_LexAgain.l0
    rw [if_neg (by omega), hall (k + 1) (by omega), Option.bind_some, if_neg (by simp)]
    show palingslaw02_LexAgain.j1 (k + 1) ts ts' ((ts'.length : Int) != (ts.length : Int)) = some true
    rw [show ((ts'.length : Int) != (ts.length : Int)) = false by rw [hlen]; exact bne_self_eq_false _]
    rw [palingslaw02_LexAgain.j1, if_neg (by decide)]
    exact again_l1 ts ts' h hn ts.length 0 k (by omega) (by omega)
  | succ m ih =>
    intro j k x hj hx hk
    obtain ⟨k, rfl⟩ : ∃ i, k = i + 1 := ⟨k - 1, by omega⟩
    have hjl : j < ts.length := by omega
    have e2 : rd_T34 ts (j : Int) = ts[j] := by unfold rd_T34; rw [Int.toNat_natCast]; simp [List.getD, hjl]
    have hx2 : By ((x ++ (ts[j]).f1) ++ (⟨#[32]⟩ : ByteArray)) = again (ts.take (j + 1)) := by
      rw [by_append, by_append, hx, List.take_succ_eq_append_getElem hjl, again_append, again_cons, List.append_assoc]
      rfl
    have hle : (again (ts.take (j + 1))).length ≤ (again ts).length := by
      conv => rhs; rw [← List.take_append_drop (j + 1) ts]
      rw [again_append, List.length_append]
      omega
    have hs := congrArg List.length hx2
    rw [by_len] at hs
    have hs2 : ((x ++ (ts[j]).f1) ++ (⟨#[32]⟩ : ByteArray)).size = x.size + (ts[j]).f1.size + 1 := by rw [ByteArray.size_append, ByteArray.size_append]; rfl
    unfold palingslaw02_LexAgain.l0
    rw [e2, if_pos (by omega), if_pos (by omega), if_pos (by omega), if_pos (by omega), if_pos (by rw [ByteArray.size_append]; omega), wrap_small (n := (j : Int) + 1) (by omega) (by omega)]
    exact ih (j + 1) k _ (by omega) hx2 (by omega)
theorem lexAgain (s : ByteArray) : ∃ k, palingslaw02_LexAgain.f k s = some true := by
  refine ⟨500000, ?_⟩
  unfold palingslaw02_LexAgain.f
  rw [head_true 500000 (by omega), Option.bind_some, if_pos rfl]
  by_cases hs : (s.size : Int) > 500
  · rw [if_pos hs]
  · rw [if_neg hs]
    obtain ⟨ts, e, q, h⟩ := LexR.ex (By s).length (By s) (1, 1) (Nat.le_refl _)
    rw [all_eq s (by omega) h 500000 (by omega), Option.bind_some]
    by_cases he : e = 0
    · rw [if_pos he, if_pos rfl]
      obtain ⟨ts', h2, hk⟩ := again_lex h he (1, 1)
      obtain ⟨h3, h4⟩ := again_len h
      rw [by_len] at h3 h4
      have hsz : (⟨(again ts).toArray⟩ : ByteArray).size = (again ts).length := size_of_list _
      refine again_l0 ts ts' hk (by omega) (by omega) (fun k hk => ?_) ts.length 0 500000 _ (by omega) rfl (by omega)
      rw [all_eq ⟨(again ts).toArray⟩ (by omega) h2 k hk, if_pos rfl]
    · rw [if_neg he, if_neg he]
theorem again_walk (s : ByteArray) (w : World) (_ : s.size ≤ 140737488351232) (hL : laidMetH Tryd.prog lexLaid w) :
    Calls Tryd.prog 6 #[.string s] w fun e w' => e = .returned (.bool true) ∧ Below w.heap.size w w' := by
  obtain ⟨k, h⟩ := lexAgain s
  refine (palingslaw02_LexAgain.calls k s true w (of_laid hL) h).mono ?_
  rintro e w' ⟨rfl, hd⟩
  exact ⟨rfl, hd⟩
end Go.Proofs.YtfljigegjhnidaaDoor.B
