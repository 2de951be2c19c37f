/- Each byte alone: a token, a blank, or an error: the law LexBytes for every byte. -/
import Derived.Test.YtfljigegjhnidaaDoorLexAgainLaw
import Derived.Test.YtfljigegjhnidaaDoorLexBytesW
namespace Go.Proofs.YtfljigegjhnidaaDoor.B
open Go.ChangeShapes Go.WideShapes Go.ChangeAt Go.RowKit Go.Proofs.YtfljigegjhnidaaDoorW.PrintWords Go.Proofs.YtfljigegjhnidaaDoorW.PrintLast Go.Proofs.YtfljigegjhnidaaDoorW.PrintMore
set_option linter.unusedVariables false
set_option linter.unusedSimpArgs false

/-- What a byte alone is. -/
def oneKind (x : UInt8) : Int := if letterB x = true then 1 else if digitB x = true then 2 else if (markList.any fun y => y == [x]) = true then 4 else 0
theorem lex_byte (x : UInt8) : (wsB x = true ∧ LexR [x] (1, 1) [tk 0 [] 0 (adv1 (1, 1) x)] 0 (0, 0)) ∨
    (wsB x = false ∧ oneKind x = 0 ∧ LexR [x] (1, 1) [] 10 (1, 1)) ∨ (wsB x = false ∧ oneKind x ≠ 0 ∧ ∃ n, LexR [x] (1, 1) [tk (oneKind x) [x] n (1, 1), tk 0 [] 0 (adv (1, 1) [x])] 0 (0, 0)) := by
  have hend : ∀ p, LexR [] p [tk 0 [] 0 p] 0 (0, 0) := fun p => .stop [] p 0 (.stop _ (fun x t h => by cases h) rfl) rfl
  cases hw : wsB x with
  | true => exact .inl ⟨rfl, LexR.ws hw (hend _)⟩
  | false =>
    refine .inr ?_
    have hb : Blank [x] 0 := .stop _ (fun y t h => by injection h with h _; rw [← h]; exact hw) (by simp [remB, List.isPrefixOf])
    have htw : ∀ p : UInt8 → Bool, p x = true → [x].takeWhile p = [x] := fun p hp => by rw [List.takeWhile_cons, if_pos hp]; rfl
    have tokd : ∀ (k n : Int), tokOf [x] = .inr (k, [x], n) → LexR [x] (1, 1) [tk k [x] n (1, 1), tk 0 [] 0 (adv (1, 1) [x])] 0 (0, 0) := fun k n h =>
      .tok [x] (1, 1) 0 (k, [x], n) _ _ _ hb (by simp) h (hend _)
    by_cases hl : letterB x = true
    · have h1 : (wordList.any fun y => y == [x]) = false := by simp
      have h2 : oneKind x = 1 := by rw [oneKind, if_pos hl]
      refine .inr ⟨rfl, by rw [h2]; decide, 0, ?_⟩
      rw [h2]
      refine tokd 1 0 ?_
      rw [tokOf_cons, if_pos hl, htw _ (by simp [runB, hl]), h1]
      rfl
    · by_cases hd : digitB x = true
      · have h2 : oneKind x = 2 := by rw [oneKind, if_neg hl, if_pos hd]
        have hx := x.toNat_lt
        have hv : valL [x] 0 = some (0 * 10 + ((x.toNat : Int) - 48) % 256) := by
          unfold valL
          rw [if_neg (by omega)]
          rfl
        refine .inr ⟨rfl, by rw [h2]; decide, 0 * 10 + ((x.toNat : Int) - 48) % 256, ?_⟩
        rw [h2]
        refine tokd 2 (0 * 10 + ((x.toNat : Int) - 48) % 256) ?_
        rw [tokOf_cons, if_neg hl, if_pos hd, htw _ (by simp [runB, hd]), hv]
      · have hf : firstOf markList [x] = if (markList.any fun y => y == [x]) = true then [x] else [] := by
          have hp := firstOf_prefix markList [x]
          by_cases hm : (markList.any fun y => y == [x]) = true
          · rw [if_pos hm]
            obtain ⟨y, hy, hye⟩ := List.any_eq_true.mp hm
            obtain rfl : y = [x] := by simpa using hye
            have hne : firstOf markList [x] ≠ [] := by
              unfold firstOf
              cases hfi : markList.find? (fun m => m.isPrefixOf [x]) with
              | none => exact absurd (List.find?_eq_none.mp hfi [x] hy) (by simp)
              | some z => exact (show ∀ z ∈ markList, z ≠ [] by decide) z (List.mem_of_find?_eq_some hfi)
            obtain ⟨w, hw⟩ := hp
            cases hfo : firstOf markList [x] with
            | nil => exact absurd hfo hne
            | cons a t =>
              rw [hfo] at hw
              simp only [List.cons_append, List.cons.injEq, List.append_eq_nil_iff] at hw
              rw [hw.1, hw.2.1]
          · rw [if_neg hm]
            unfold firstOf
            cases hfi : markList.find? (fun m => m.isPrefixOf [x]) with
            | none => rfl
            | some z =>
              exfalso
              have h1 : z.isPrefixOf [x] = true := by simpa using List.find?_some hfi
              obtain ⟨w, hw⟩ := List.isPrefixOf_iff_prefix.mp h1
              have hz := List.mem_of_find?_eq_some hfi
              cases z with
              | nil => exact absurd rfl ((show ∀ z ∈ markList, z ≠ [] by decide) [] hz)
              | cons a t =>
                simp only [List.cons_append, List.cons.injEq, List.append_eq_nil_iff] at hw
                refine hm (List.any_eq_true.mpr ⟨a :: t, hz, ?_⟩)
                rw [hw.1, hw.2.1]
                simp
        by_cases hm : (markList.any fun y => y == [x]) = true
        · have h2 : oneKind x = 4 := by rw [oneKind, if_neg hl, if_neg hd, if_pos hm]
          rw [if_pos hm] at hf
          refine .inr ⟨rfl, by rw [h2]; decide, 0, ?_⟩
          rw [h2]
          refine tokd 4 0 ?_
          rw [tokOf_cons, if_neg hl, if_neg hd, hf, if_neg (by simp)]
        · have h2 : oneKind x = 0 := by rw [oneKind, if_neg hl, if_neg hd, if_neg hm]
          rw [if_neg hm] at hf
          refine .inl ⟨rfl, h2, .err [x] (1, 1) 0 10 hb ?_⟩
          rw [List.drop_zero, tokOf_cons, if_neg hl, if_neg hd, if_pos hf]

def tailR (s : ByteArray) (ts : List S34) (e l c : Int) (kd : Int) : Option Bool :=
  if kd = 0 then (if (e == 10 && ((l == 1 && (c == 1)))) = true then (some ((ts.length : Int) == 0)) else (some false))
  else (if (e == 0 && ((l == 0 && (c == 0)))) = true then (if (ts.length : Int) = 2 then (if 0 < (ts.length : Int) then (if ((rd_T34 ts 0).f0) = kd then (some (((rd_T34 ts 0).f1).toList == s.toList)) else (some false)) else (none)) else (some false)) else (some false))
theorem bytes_j2 (k : Nat) (s : ByteArray) (ts : List S34) (e l c : Int) (b : Bool) : palingslaw02_LexBytes.j2 (k + 1) s ts 0 b e l c =
    if b = true then (if (e == 0 && ((l == 0 && (c == 0)))) = true then (some ((ts.length : Int) == 1)) else (some false)) else tailR s ts e l c (if (markList.any fun y => y == s.toList) = true then 4 else 0) := by
  rw [palingslaw02_LexBytes.j2]
  cases b with
  | true => rfl
  | false =>
    rw [if_neg (show ¬ (false = true) by decide), if_neg (show ¬ (false = true) by decide)]
    show (if (markList.any fun y => y == s.toList) = true then _ else _) = _
    cases (markList.any fun y => y == s.toList) <;> rfl
theorem bytes_j1 (k : Nat) (x : UInt8) (s : ByteArray) (ts : List S34) (e l c : Int) (b : Bool) : palingslaw02_LexBytes.j1 (k + 2) (x.toNat : Int) s ts 0 b e l c =
    if b = true then tailR s ts e l c 2 else palingslaw02_LexBytes.j2 (k + 1) s ts 0 (wsB x) e l c := by
  rw [palingslaw02_LexBytes.j1]
  cases b with
  | true => rfl
  | false =>
    rw [if_neg (show ¬ (false = true) by decide), if_neg (show ¬ (false = true) by decide)]
    by_cases h32 : (x.toNat : Int) = 32
    · rw [if_pos h32, show wsB x = true by rw [(b32 x 32 (by decide)).mp h32]; rfl]
    · rw [if_neg h32]
      by_cases h9 : (x.toNat : Int) = 9
      · rw [if_pos h9, show wsB x = true by rw [(b32 x 9 (by decide)).mp h9]; rfl]
      · rw [if_neg h9]
        by_cases h10 : (x.toNat : Int) = 10
        · rw [if_pos h10, show wsB x = true by rw [(b32 x 10 (by decide)).mp h10]; rfl]
        · rw [if_neg h10]
          have n32 : x ≠ 32 := fun h => h32 ((b32 x 32 (by decide)).mpr h)
          have n9 : x ≠ 9 := fun h => h9 ((b32 x 9 (by decide)).mpr h)
          have n10 : x ≠ 10 := fun h => h10 ((b32 x 10 (by decide)).mpr h)
          have h13 : ((x.toNat : Int) == 13) = (x == 13) := by
            rw [Bool.eq_iff_iff, beq_iff_eq, beq_iff_eq]; exact b32 x 13 (by decide)
          rw [h13, show wsB x = (x == 13) by simp [wsB, n32, n9, n10]]
theorem bytes_j0 (k : Nat) (x : UInt8) (s : ByteArray) (ts : List S34) (e l c : Int) (b : Bool) : palingslaw02_LexBytes.j0 (k + 3) (x.toNat : Int) s ts 0 b e l c =
    if b = true then tailR s ts e l c 1 else palingslaw02_LexBytes.j1 (k + 2) (x.toNat : Int) s ts 0 (digitB x) e l c := by
  rw [palingslaw02_LexBytes.j0]
  cases b with
  | true => rfl
  | false =>
    rw [if_neg (show ¬ (false = true) by decide), if_neg (show ¬ (false = true) by decide)]
    by_cases h : (x.toNat : Int) ≥ 48
    · rw [if_pos h, show digitB x = decide ((x.toNat : Int) ≤ 57) by
        rw [digitB, decide_eq_true (show 48 ≤ x.toNat by omega), Bool.true_and]; exact decide_eq_decide.mpr (by omega)]
    · rw [if_neg h, show digitB x = false by rw [digitB, decide_eq_false (by omega), Bool.false_and]]
theorem bytes_f (k : Nat) (x : UInt8) (ts : List S34) (e l c : Int) (hh : palingslaw02_head.f (k + 3) = some true) (hall : lex_All.f (k + 3) ⟨#[x]⟩ = some (ts, e, l, c)) :
    palingslaw02_LexBytes.f (k + 3) (x.toNat : Int) = palingslaw02_LexBytes.j0 (k + 3) (x.toNat : Int) ⟨#[x]⟩ ts 0 (letterB x) e l c := by
  have hs : strOfNums [(x.toNat : Int)] = ⟨#[x]⟩ := by
    refine arr_of ?_
    rw [By, strOfNums_data]
    simp
  unfold palingslaw02_LexBytes.f
  rw [hh, Option.bind_some, if_pos rfl, Option.bind_some, hs, hall, Option.bind_some]
  have h95 : ((x.toNat : Int) == 95) = (x == 95) := by
    rw [Bool.eq_iff_iff, beq_iff_eq, beq_iff_eq]; exact b32 x 95 (by decide)
  rw [h95]
  unfold letterB
  by_cases h1 : 97 ≤ x.toNat <;> by_cases h2 : x.toNat ≤ 122 <;> by_cases h3 : 65 ≤ x.toNat <;> by_cases h4 : x.toNat ≤ 90 <;>
    simp only [ge_iff_le, show ((97 : Int) ≤ (x.toNat : Int)) ↔ 97 ≤ x.toNat by omega, show ((x.toNat : Int) ≤ 122) ↔ x.toNat ≤ 122 by omega, show ((65 : Int) ≤ (x.toNat : Int)) ↔ 65 ≤ x.toNat by omega, show ((x.toNat : Int) ≤ 90) ↔ x.toNat ≤ 90 by omega, h1, h2, h3, h4, if_true, if_false, decide_true, decide_false, Bool.true_and, Bool.false_and, Bool.and_false, Bool.and_true, Bool.true_or, Bool.false_or, Bool.or_true] <;> first | rfl | omega
theorem lexBytes (x : UInt8) : ∃ k, palingslaw02_LexBytes.f k (x.toNat : Int) = some true := by
  obtain ⟨K, hK⟩ : ∃ K : Nat, 300000 ≤ K + 3 := ⟨300000, by omega⟩
  refine ⟨K + 3, ?_⟩
  have hh := head_true (K + 3) hK
  have hby : By ⟨#[x]⟩ = [x] := rfl
  have hone : oneKind x = if letterB x = true then 1 else if digitB x = true then 2 else if (markList.any fun y => y == [x]) = true then 4 else 0 := rfl
  have htl : (⟨#[x]⟩ : ByteArray).toList = [x] := by rw [ByteArray.toList_eq]
  rcases lex_byte x with ⟨hw, h⟩ | ⟨hw, h0, h⟩ | ⟨hw, h0, n, h⟩
  · have ha := all_eq ⟨#[x]⟩ (by rw [show (⟨#[x]⟩ : ByteArray).size = 1 from rfl]; omega) h (K + 3) hK
    rw [if_pos rfl] at ha
    have hld : letterB x = false ∧ digitB x = false := by
      simp only [wsB, Bool.or_eq_true, beq_iff_eq] at hw
      rcases hw with ((rfl | rfl) | rfl) | rfl <;> decide
    rw [bytes_f K x _ _ _ _ hh ha, bytes_j0, hld.1, if_neg (by decide), bytes_j1, hld.2, if_neg (by decide), bytes_j2, hw]
    rfl
  · have ha := all_eq ⟨#[x]⟩ (by rw [show (⟨#[x]⟩ : ByteArray).size = 1 from rfl]; omega) h (K + 3) hK
    rw [if_neg (by decide)] at ha
    rw [h0] at hone
    rw [bytes_f K x _ _ _ _ hh ha, bytes_j0, bytes_j1, bytes_j2, hw, htl]
    cases hl : letterB x with
    | true => rw [hl] at hone; simp at hone
    | false =>
      cases hd : digitB x with
      | true => rw [hl, hd] at hone; simp at hone
      | false =>
        rw [hl, hd, if_neg (by decide), if_neg (by decide)] at hone
        rw [if_neg (by decide), if_neg (by decide), if_neg (by decide), ← hone]
        rfl
  · have ha := all_eq ⟨#[x]⟩ (by rw [show (⟨#[x]⟩ : ByteArray).size = 1 from rfl]; omega) h (K + 3) hK
    rw [if_pos rfl] at ha
    have ht : ∀ kd, kd ≠ 0 → oneKind x = kd → tailR ⟨#[x]⟩ [tk (oneKind x) [x] n (1, 1), tk 0 [] 0 (adv (1, 1) [x])] 0 0 0 kd = some true := by
      intro kd hkd he
      unfold tailR
      rw [if_neg hkd]
      refine (if_pos (by decide)).trans ((if_pos (show ((2 : Nat) : Int) = 2 from rfl)).trans ((if_pos (show (0 : Int) < ((2 : Nat) : Int) by decide)).trans ?_))
      refine (if_pos (show oneKind x = kd from he)).trans ?_
      show some ((⟨#[x]⟩ : ByteArray).toList == (⟨#[x]⟩ : ByteArray).toList) = some true
      rw [htl]
      simp
    rw [bytes_f K x _ _ _ _ hh ha, bytes_j0, bytes_j1, bytes_j2, hw, htl]
    cases hl : letterB x with
    | true => rw [if_pos rfl]; exact ht 1 (by decide) (by rw [hone, hl, if_pos rfl])
    | false =>
      rw [if_neg (by decide)]
      cases hd : digitB x with
      | true => rw [if_pos rfl]; exact ht 2 (by decide) (by rw [hone, hl, hd, if_neg (by decide), if_pos rfl])
      | false =>
        rw [if_neg (by decide), if_neg (by decide)]
        rw [hl, hd, if_neg (by decide), if_neg (by decide)] at hone
        rw [← hone]
        exact ht _ h0 rfl
abbrev lexLaid3 : List (String × DataW Unit) := [("palings/lex.words", Rows.laid_palings_lex_words), ("palings/lex.marks", Rows.laid_palings_lex_marks), ("palings/palingslaw02.marks", Rows.laid_palings_palingslaw02_marks)]
theorem gMarks0 : Tryd.prog.globalNamed "palings/palingslaw02.marks" = some 0 := by kernel_rfl
theorem tMarks0 : (Tryd.prog.globals[0]?).map (·.type) = some 38 := by kernel_rfl
theorem of_laid3 {W : World} (h : laidMetH Tryd.prog lexLaid3 W) : GLaid W ∧ StrsAt W 0 markList := by
  rw [MakeChecks.laidMetH_plain _ _ _ (by kernel_rfl)] at h
  obtain ⟨ps, ⟨g0, t0, cs0, f0, p0, q0, hg0, ht0, hv0, hd0, ⟨g1, t1, cs1, f1, p1, q1, hg1, ht1, hv1, hd1, ⟨g2, t2, cs2, f2, p2, q2, hg2, ht2, hv2, hd2, _⟩, _⟩, _⟩, _⟩ := h
  obtain rfl := Option.some.inj (tWords.symm.trans (by rw [gWords] at hg0; obtain rfl := Option.some.inj hg0; exact ht0))
  obtain rfl := Option.some.inj (tMarks.symm.trans (by rw [gMarks] at hg1; obtain rfl := Option.some.inj hg1; exact ht1))
  obtain rfl := Option.some.inj (tMarks0.symm.trans (by rw [gMarks0] at hg2; obtain rfl := Option.some.inj hg2; exact ht2))
  exact ⟨⟨strs_of_var (l := wordList) gWords hv0 rfl hd0, strs_of_var (l := markList) gMarks hv1 rfl hd1⟩, strs_of_var (l := markList) gMarks0 hv2 rfl hd2⟩
theorem bytes_walk (c : Int) (w : World) (hc : (Lit.int .u8 c).wf = true) (hL : laidMetH Tryd.prog lexLaid3 w) :
    Calls Tryd.prog 4 #[.int .u8 c] w fun e w' => e = .returned (.bool true) ∧ Below w.heap.size w w' := by
  have h0 : 0 ≤ c ∧ c < 256 := by
    simp only [Lit.wf, IntKind.wrap, IntKind.bits, IntKind.signed, beq_iff_eq] at hc
    simp at hc
    rw [show IntKind.u8.min = 0 from by decide, show IntKind.u8.max = 255 from by decide] at hc
    omega
  obtain ⟨x, rfl⟩ : ∃ x : UInt8, c = (x.toNat : Int) := ⟨UInt8.ofNat c.toNat, by rw [UInt8.toNat_ofNat']; omega⟩
  obtain ⟨k, h⟩ := lexBytes x
  obtain ⟨h1, h2⟩ := of_laid3 hL
  refine (palingslaw02_LexBytes.calls k _ true w h1 h2 h).mono ?_
  rintro e w' ⟨rfl, hd⟩
  exact ⟨rfl, hd⟩
end Go.Proofs.YtfljigegjhnidaaDoor.B
