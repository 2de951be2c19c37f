/- Pieces one behind the other, a gap ahead of each: the text is lexed to just these tokens. -/
import Derived.Test.YtfljigegjhnidaaDoorPiecesBase
import Derived.Test.YtfljigegjhnidaaDoorPc0
namespace Go.Proofs.YtfljigegjhnidaaDoor.B
open Go.RowKit Go.Proofs.YtfljigegjhnidaaDoorW.PrintWords Go.Proofs.YtfljigegjhnidaaDoorW.PrintLast Go.Proofs.YtfljigegjhnidaaDoorW.PrintMore
set_option linter.unusedVariables false
set_option linter.unusedSimpArgs false

theorem LexR.rem {r : List UInt8} {p : Int × Int} {ts : List S34} {e : Int} {q : Int × Int} (hw : remB r = true) (h : LexR (r.drop (lineLen r)) (adv p (r.take (lineLen r))) ts e q) : LexR r p ts e q := by
  have hd : ∀ b, (r.drop (lineLen r)).drop b = r.drop (lineLen r + b) := fun b => List.drop_drop
  have ht : ∀ b, adv (adv p (r.take (lineLen r))) ((r.drop (lineLen r)).take b) = adv p (r.take (lineLen r + b)) := fun b => by rw [← adv_append, List.take_add]
  generalize hr : r.drop (lineLen r) = r' at h hd ht
  generalize hp : adv p (r.take (lineLen r)) = p' at h ht
  cases h with
  | stop _ _ b hb h => rw [ht b]; exact .stop r p (lineLen r + b) (.rem r b hw (hr ▸ hb)) (by rw [← hd b]; exact h)
  | err _ _ b _ hb h => rw [ht b]; exact .err r p (lineLen r + b) e (.rem r b hw (hr ▸ hb)) (by rw [← hd b]; exact h)
  | tok _ _ b t ts _ _ hb hne h hr2 =>
    rw [ht b, hd b] at hr2
    rw [ht b]
    exact .tok r p (lineLen r + b) t ts e q (.rem r b hw (hr ▸ hb)) (by rw [← hd b]; exact hne) (by rw [← hd b]; exact h) hr2

abbrev gapList : List (List UInt8) := [[32], [10], [9, 32, 13, 10], [32, 47, 47, 32, 110, 111, 32, 116, 111, 107, 101, 110, 32, 38, 38, 32, 53, 10], [10, 47, 47, 10]]
/-- Nothing, or a blank ahead. -/
def Gapped (z : List UInt8) : Prop := z = [] ∨ ∃ c z', z = c :: z' ∧ (c = 32 ∨ c = 10 ∨ c = 9)
theorem gap_lex {g z : List UInt8} (hg : g ∈ gapList) {p : Int × Int} {ts : List S34} {e : Int} {q : Int × Int} (h : LexR z (adv p g) ts e q) : LexR (g ++ z) p ts e q := by
  simp only [gapList, List.mem_cons, List.not_mem_nil, or_false] at hg
  rcases hg with rfl | rfl | rfl | rfl | rfl
  · exact .ws rfl h
  · exact .ws rfl h
  · exact .ws rfl (.ws rfl (.ws rfl (.ws rfl h)))
  · exact .ws rfl (.rem (by rfl) (show LexR (10 :: z) (adv (adv1 p 32) [47, 47, 32, 110, 111, 32, 116, 111, 107, 101, 110, 32, 38, 38, 32, 53]) ts e q from .ws rfl h))
  · exact .ws rfl (.rem (by rfl) (show LexR (10 :: z) (adv (adv1 p 10) [47, 47]) ts e q from .ws rfl h))
theorem gap_gapped {g : List UInt8} (hg : g ∈ gapList) (z : List UInt8) : Gapped (g ++ z) := by
  simp only [gapList, List.mem_cons, List.not_mem_nil, or_false] at hg
  rcases hg with rfl | rfl | rfl | rfl | rfl
  · exact .inr ⟨32, _, rfl, .inl rfl⟩
  · exact .inr ⟨10, _, rfl, .inr (.inl rfl)⟩
  · exact .inr ⟨9, _, rfl, .inr (.inr rfl)⟩
  · exact .inr ⟨32, _, rfl, .inl rfl⟩
  · exact .inr ⟨10, _, rfl, .inr (.inl rfl)⟩
theorem gap_len {g : List UInt8} (hg : g ∈ gapList) : g.length ≤ 18 := by
  revert g; decide
theorem take_gapped {p : UInt8 → Bool} (h32 : p 32 = false) (h10 : p 10 = false) (h9 : p 9 = false) {l z : List UInt8} (hl : ∀ x ∈ l, p x = true) (hz : Gapped z) : (l ++ z).takeWhile p = l := by
  rw [List.takeWhile_append_of_pos hl]
  rcases hz with rfl | ⟨c, z', rfl, rfl | rfl | rfl⟩
  · simp
  · rw [List.takeWhile_cons, if_neg (by rw [h32]; decide), List.append_nil]
  · rw [List.takeWhile_cons, if_neg (by rw [h10]; decide), List.append_nil]
  · rw [List.takeWhile_cons, if_neg (by rw [h9]; decide), List.append_nil]
theorem blank0 {x : UInt8} {r : List UInt8} (h : wsB x = false) (h2 : x ≠ 47) : Blank (x :: r) 0 := .stop _ (fun y t e => by injection e with e _; rw [← e]; exact h) (by
  unfold remB
  cases hq : [47, 47].isPrefixOf (x :: r) with
  | false => rfl
  | true => obtain ⟨t, ht⟩ := rem_shape hq; injection ht with ht _; exact absurd ht h2)

/-- What one kind of token is: its bytes stand there, a gap or nothing behind them. -/
def Whole (t : Int × List UInt8 × Int) : Prop := t.2.1 ≠ [] ∧ t.2.1.length ≤ 8 ∧ ∀ z, Gapped z → tokOf (t.2.1 ++ z) = .inr t ∧ Blank (t.2.1 ++ z) 0

theorem dec_len : ∀ (d n : Nat), n < 10 ^ (d + 1) → (Lib.decDigits n).length ≤ d + 1 := by
  intro d
  induction d with
  | zero => intro n h; rw [Lib.decDigits, dif_pos (by omega)]; simp
  | succ d ih =>
    intro n h
    rw [Lib.decDigits]
    by_cases hn : n < 10
    · rw [dif_pos hn]; simp
    · rw [dif_neg hn, List.length_append]
      have := ih (n / 10) (by rw [Nat.pow_succ] at h; omega)
      simp only [List.length_singleton]
      omega
theorem dec_ne (n : Nat) : Lib.decDigits n ≠ [] := by
  rw [Lib.decDigits]; split <;> simp
theorem whole_num (n : Nat) (hn : n < 65536) : Whole (2, Lib.decDigits n, (n : Int)) := by
  obtain ⟨h1, h2⟩ := worth_dec n
  have h3 := dec_ne n
  have h4 := dec_len 4 n (by omega)
  refine ⟨h3, show (Lib.decDigits n).length ≤ 8 by omega, fun z hz => ?_⟩
  show tokOf (Lib.decDigits n ++ z) = _ ∧ Blank (Lib.decDigits n ++ z) 0
  generalize hd : Lib.decDigits n = l at h1 h2 h3
  have htw : (l ++ z).takeWhile (runB false) = l := take_gapped (by decide) (by decide) (by decide) (fun y hy => by rw [runB, h2 y hy]; rfl) hz
  have hv := valL_worth l 0 h2 (by decide)
  rw [show ((0 : Nat) : Int) = 0 from rfl, h1, if_pos (by omega)] at hv
  cases l with
  | nil => exact absurd rfl h3
  | cons x r =>
    obtain ⟨g1, g2, g3⟩ := digit_not (h2 x (List.mem_cons_self ..))
    refine ⟨?_, blank0 g2 g3⟩
    rw [List.cons_append] at htw ⊢
    rw [tokOf_cons, if_neg (by rw [g1]; decide), if_pos (h2 x (List.mem_cons_self ..)), htw, hv]
theorem whole_name (n : Nat) (hn : n < 65536) : Whole (1, 120 :: (Lib.decDigits n ++ [95, 89]), 0) := by
  have h2 := (worth_dec n).2
  have h4 := dec_len 4 n (by omega)
  refine ⟨by simp, by simp; omega, fun z hz => ?_⟩
  have ha : ∀ x ∈ (120 : UInt8) :: (Lib.decDigits n ++ [95, 89]), runB true x = true := fun x hx => by
    rcases List.mem_cons.mp hx with rfl | hx
    · rfl
    · rcases List.mem_append.mp hx with hx | hx
      · rw [runB, h2 x hx]; rfl
      · simp only [List.mem_cons, List.not_mem_nil, or_false] at hx
        rcases hx with rfl | rfl <;> rfl
  have htw := take_gapped (p := runB true) (by decide) (by decide) (by decide) ha hz
  refine ⟨?_, blank0 rfl (by decide)⟩
  show tokOf (120 :: ((Lib.decDigits n ++ [95, 89]) ++ z)) = _
  rw [List.cons_append] at htw
  rw [tokOf_cons, if_pos (by rfl), htw, if_neg]
  rw [Bool.not_eq_true, List.any_eq_false]
  intro y hy he
  have he := beq_iff_eq.mp he
  have hno : ∀ y ∈ wordList, (95 : UInt8) ∉ y := by decide
  exact hno y hy (by rw [he]; simp)
theorem whole_word (w : List UInt8) (hw : w ∈ wordList) : Whole (3, w, 0) := by
  have h : ∀ w ∈ wordList, w ≠ [] ∧ w.length ≤ 8 ∧ (∀ x ∈ w, runB true x = true) ∧ (∀ x ∈ w.take 1, letterB x = true ∧ wsB x = false ∧ x ≠ 47) := by decide
  obtain ⟨h1, h2, h3, h4⟩ := h w hw
  refine ⟨h1, h2, fun z hz => ?_⟩
  have htw := take_gapped (p := runB true) (by decide) (by decide) (by decide) h3 hz
  cases w with
  | nil => exact absurd rfl h1
  | cons x r =>
    obtain ⟨g1, g2, g3⟩ := h4 x (by simp)
    refine ⟨?_, blank0 g2 g3⟩
    show tokOf (x :: (r ++ z)) = _
    rw [List.cons_append] at htw
    rw [tokOf_cons, if_pos g1, htw, if_pos]
    exact List.any_eq_true.mpr ⟨_, hw, beq_iff_eq.mpr rfl⟩
theorem mark_first (m : List UInt8) (hm : m ∈ markList) (z : List UInt8) (hz : Gapped z) : firstOf markList (m ++ z) = m ∧ remB (m ++ z) = false := by
  simp only [markList, List.mem_cons, List.not_mem_nil, or_false] at hm
  rcases hz with rfl | ⟨c, z', rfl, rfl | rfl | rfl⟩
  · rw [List.append_nil]
    rcases hm with rfl | rfl | rfl | rfl | rfl | rfl | rfl | rfl | rfl | rfl | rfl | rfl | rfl | rfl | rfl | rfl | rfl | rfl | rfl | rfl | rfl | rfl | rfl | rfl | rfl | rfl | rfl | rfl <;> exact ⟨rfl, rfl⟩
  all_goals
    rcases hm with rfl | rfl | rfl | rfl | rfl | rfl | rfl | rfl | rfl | rfl | rfl | rfl | rfl | rfl | rfl | rfl | rfl | rfl | rfl | rfl | rfl | rfl | rfl | rfl | rfl | rfl | rfl | rfl <;> exact ⟨rfl, rfl⟩
theorem whole_mark (m : List UInt8) (hm : m ∈ markList) : Whole (4, m, 0) := by
  have h : ∀ w ∈ markList, w ≠ [] ∧ w.length ≤ 8 ∧ (∀ x ∈ w.take 1, letterB x = false ∧ digitB x = false ∧ wsB x = false) := by decide
  obtain ⟨h1, h2, h4⟩ := h m hm
  refine ⟨h1, h2, fun z hz => ?_⟩
  obtain ⟨hf, hr⟩ := mark_first m hm z hz
  show tokOf (m ++ z) = _ ∧ Blank (m ++ z) 0
  cases m with
  | nil => exact absurd rfl h1
  | cons x r =>
    obtain ⟨g1, g2, g3⟩ := h4 x (by simp)
    rw [List.cons_append] at hf hr ⊢
    refine ⟨?_, .stop _ (fun y t e => by injection e with e _; rw [← e]; exact g3) hr⟩
    rw [tokOf_cons, if_neg (by rw [g1]; decide), if_neg (by rw [g2]; decide), hf, if_neg h1]

/-- A row of pieces: gap, token. -/
abbrev Pc := List UInt8 × Int × List UInt8 × Int
def txt (l : List Pc) : List UInt8 := l.flatMap fun x => x.1 ++ x.2.2.1
def toks (p : Int × Int) : List Pc → List S34
  | [] => [tk 0 [] 0 p]
  | x :: r => tk x.2.1 x.2.2.1 x.2.2.2 (adv p x.1) :: toks (adv (adv p x.1) x.2.2.1) r
theorem lex_pieces : ∀ (l : List Pc) (p : Int × Int), (∀ x ∈ l, x.1 ∈ gapList ∧ Whole x.2) → LexR (txt l) p (toks p l) 0 (0, 0) ∧ Gapped (txt l)
  | [], p, _ => ⟨.stop [] p 0 (.stop _ (fun x t h => by cases h) rfl) rfl, .inl rfl⟩
  | x :: l, p, h => by
    obtain ⟨h1, h2, _, h3⟩ := h x (List.mem_cons_self ..)
    obtain ⟨g1, g2⟩ := lex_pieces l (adv (adv p x.1) x.2.2.1) (fun y hy => h y (List.mem_cons_of_mem _ hy))
    obtain ⟨k1, k2⟩ := h3 _ g2
    have e : txt (x :: l) = x.1 ++ (x.2.2.1 ++ txt l) := by simp [txt]
    rw [e]
    refine ⟨gap_lex h1 ?_, gap_gapped h1 _⟩
    exact LexR.tok (x.2.2.1 ++ txt l) (adv p x.1) 0 x.2 _ 0 (0, 0) k2 (by simp [h2]) k1 (by simpa [adv_nil] using g1)
end Go.Proofs.YtfljigegjhnidaaDoor.B
