/- What LexAny leans on, in plain words: places; how the tokens stand in the text. -/
import Derived.Test.YtfljigegjhnidaaDoorLexAgainLaw
import Derived.Test.YtfljigegjhnidaaDoorBx4
namespace Go.Proofs.YtfljigegjhnidaaDoor.B
open Go.RowKit Go.Proofs.YtfljigegjhnidaaDoorW.PrintWords Go.Proofs.YtfljigegjhnidaaDoorW.PrintLast Go.Proofs.YtfljigegjhnidaaDoorW.PrintMore
set_option linter.unusedVariables false
set_option linter.unusedSimpArgs false

theorem place_l0 (s : ByteArray) (hs : s.size ≤ 70000) : ∀ (m k n i : Nat) (p : Int × Int), n = i + m → n ≤ s.size → m < k → PosOk i p →
    palingslaw02_place.l0 k s n i p.1 p.2 = some (adv p (((By s).drop i).take m)) := by
  intro m
  induction m with
  | zero =>
    intro k n i p hn hi hk hp
    obtain ⟨k, rfl⟩ : ∃ j, k = j + 1 := ⟨k - 1, by omega⟩
    unfold palingslaw02_place.l0
    rw [if_neg (by omega)]
    simp [adv_nil]
  | succ m ih =>
    intro k n i p hn hi hk hp
    obtain ⟨k, rfl⟩ : ∃ j, k = j + 1 := ⟨k - 1, by omega⟩
    have hil : i < (By s).length := by rw [by_len]; omega
    obtain ⟨h1, h2, h3, h4⟩ := id hp
    unfold palingslaw02_place.l0
    rw [if_pos (by omega), if_pos (by omega), if_pos (by omega), bt_get s i hil, wrap_small (n := (i : Int) + 1) (by omega) (by omega), wrap_small (n := p.1 + 1) (by omega) (by omega), wrap_small (n := p.2 + 1) (by omega) (by omega)]
    have e : ((By s).drop i).take (m + 1) = (By s)[i] :: (((By s).drop (i + 1)).take m) := by rw [List.drop_eq_getElem_cons hil, List.take_succ_cons]
    rw [e, adv_cons]
    have h := ih k n (i + 1) (adv1 p (By s)[i]) (by omega) (by omega) (by omega) (by have := hp.step (By s)[i]; exact_mod_cast this)
    rw [← h]
    clear h e
    generalize (By s)[i] = y
    by_cases hx : y = 10
    · rw [if_pos ((byte10 _).mpr hx)]
      simp [adv1, hx]
    · rw [if_neg (fun h => hx ((byte10 _).mp h))]
      simp [adv1, hx]
theorem place_eq (s : ByteArray) (hs : s.size ≤ 70000) (k n : Nat) (hn : n ≤ s.size) (hk : n < k) : palingslaw02_place.f k s n = some ((adv (1, 1) ((By s).take n)).1, (adv (1, 1) ((By s).take n)).2) := by
  unfold palingslaw02_place.f
  exact place_l0 s hs n k n 0 (1, 1) (by omega) hn hk ⟨by decide, by decide, by decide, by decide⟩
theorem lex_err {r : List UInt8} {p : Int × Int} {ts : List S34} {e : Int} {q : Int × Int} (h : LexR r p ts e q) : e ≠ 0 → ∀ n, PosOk n p → (e = 10 ∨ e = 11) ∧ 1 ≤ q.1 ∧ 1 ≤ q.2 := by
  induction h with
  | stop => intro h; exact absurd rfl h
  | err r p b e hb h =>
    intro _ n hp
    have := hp.adv (l := r.take b)
    exact ⟨tokOf_err h, this.1, this.2.1⟩
  | tok r p b t ts e q hb hne h hr ih =>
    intro he n hp
    exact ih he _ ((hp.adv (l := r.take b)).adv (l := t.2.1))
theorem lex_ne {r : List UInt8} {p : Int × Int} {ts : List S34} {q : Int × Int} (h : LexR r p ts 0 q) : ts ≠ [] := by
  cases h with
  | stop => simp
  | err _ _ b _ hb h => rcases tokOf_err h with h | h <;> exact absurd h (by decide)
  | tok => simp
/-- Where the walk of LexAny stands: behind a bytes, n tokens have been met. -/
structure At (s : ByteArray) (ts : List S34) (n a : Nat) : Prop where
  la : a ≤ s.size
  lex : LexR ((By s).drop a) (adv (1, 1) ((By s).take a)) (ts.drop n) 0 (0, 0)
/-- One round: the gap, the token, what is asked of it. -/
theorem At.step {s : ByteArray} {ts : List S34} {n a : Nat} (h : At s ts n a) : ∃ (b : Nat) (t : S34), n < ts.length ∧ Blank ((By s).drop a) b ∧ a + b ≤ s.size ∧ ts.getD n z34 = t ∧ (t.f3.f0, t.f3.f1) = adv (1, 1) ((By s).take (a + b)) ∧
    ((n + 1 = ts.length ∧ t.f0 = 0 ∧ t.f1 = ⟨#[]⟩ ∧ a + b = s.size) ∨
     (n + 1 < ts.length ∧ t.f0 ≠ 0 ∧ t.f1.size ≠ 0 ∧ a + b + t.f1.size ≤ s.size ∧ s.extract (a + b) (a + b + t.f1.size) = t.f1 ∧ At s ts (n + 1) (a + b + t.f1.size))) := by
  obtain ⟨la, lex⟩ := h
  have hadv : ∀ b, adv (adv (1, 1) ((By s).take a)) (((By s).drop a).take b) = adv (1, 1) ((By s).take (a + b)) := fun b => by rw [← adv_append, List.take_add]
  generalize hr : (By s).drop a = r at lex
  generalize hp : adv (1, 1) ((By s).take a) = p at lex
  generalize hts : ts.drop n = tn at lex
  generalize hqq : ((0 : Int), (0 : Int)) = qq at lex
  generalize he : (0 : Int) = e at lex
  have hrl := congrArg List.length hr
  rw [List.length_drop, by_len] at hrl
  have hget : ∀ t u, tn = t :: u → n < ts.length ∧ ts.getD n z34 = t ∧ ts.drop (n + 1) = u := by
    intro t u h
    have hn : n < ts.length := by
      rcases Nat.lt_or_ge n ts.length with h1 | h1
      · exact h1
      · rw [List.drop_of_length_le h1, h] at hts; cases hts
    rw [h, List.drop_eq_getElem_cons hn] at hts
    injection hts with h1 h2
    exact ⟨hn, by simp [List.getD, hn, h1], h2⟩
  cases lex with
  | stop _ _ b hb h =>
    obtain ⟨h1, h2, h3⟩ := hget _ _ rfl
    have hble := hb.le
    have hlast : r.length ≤ b := List.drop_eq_nil_iff.mp h
    refine ⟨b, _, h1, hb, by omega, h2, ?_, .inl ⟨?_, rfl, rfl, by omega⟩⟩
    · rw [← hadv b, hr, hp]; rfl
    · have := congrArg List.length h3; rw [List.length_drop] at this; simp at this; omega
  | err _ _ b _ hb h => rcases tokOf_err h with h | h <;> omega
  | tok _ _ b t u _ _ hb hne h hr2 =>
    subst he hqq
    obtain ⟨h1, h2, h3⟩ := hget _ _ rfl
    obtain ⟨k1, k2, k3⟩ := tokOf_ne hne h
    have hble := hb.le
    have hl := k3.length_le
    rw [List.length_drop] at hl
    have hsz : (⟨t.2.1.toArray⟩ : ByteArray).size = t.2.1.length := size_of_list _
    have hd : r.drop b = (By s).drop (a + b) := by rw [← hr, List.drop_drop]
    have hne2 : u ≠ [] := lex_ne hr2
    have hq : adv (adv p (r.take b)) t.2.1 = adv (1, 1) ((By s).take (a + b + t.2.1.length)) := by
      rw [← hp, ← hr, hadv b, List.prefix_iff_eq_take.mp k3, hd, ← adv_append, ← List.take_add]
      rw [List.length_take, List.length_drop, by_len, Nat.min_eq_left (by omega)]
    refine ⟨b, _, h1, hb, by omega, h2, ?_, .inr ⟨?_, k2, ?_, ?_, ?_, ?_⟩⟩
    · rw [← hadv b, hr, hp]; rfl
    · have h4 := congrArg List.length h3
      rw [List.length_drop] at h4
      have h5 : 0 < u.length := List.length_pos_iff.mpr hne2
      omega
    · show (⟨t.2.1.toArray⟩ : ByteArray).size ≠ 0
      rw [hsz]
      have := List.length_pos_iff.mpr k1
      omega
    · show a + b + (⟨t.2.1.toArray⟩ : ByteArray).size ≤ s.size
      rw [hsz]; omega
    · show s.extract (a + b) (a + b + (⟨t.2.1.toArray⟩ : ByteArray).size) = ⟨t.2.1.toArray⟩
      rw [hsz]
      refine arr_of ((Lib.extract_data s _ _).trans ?_)
      rw [Nat.add_sub_cancel_left, show s.data.toList.drop (a + b) = r.drop b from hd.symm]
      exact (List.prefix_iff_eq_take.mp k3).symm
    · refine ⟨?_, ?_⟩
      · show a + b + (⟨t.2.1.toArray⟩ : ByteArray).size ≤ s.size
        rw [hsz]; omega
      · show LexR ((By s).drop (a + b + (⟨t.2.1.toArray⟩ : ByteArray).size)) (adv (1, 1) ((By s).take (a + b + (⟨t.2.1.toArray⟩ : ByteArray).size))) (ts.drop (n + 1)) 0 (0, 0)
        rw [hsz, h3, ← hq]
        have h4 : (By s).drop (a + b + t.2.1.length) = (r.drop b).drop t.2.1.length := by rw [hd, List.drop_drop]
        rw [h4]
        exact hr2
end Go.Proofs.YtfljigegjhnidaaDoor.B
