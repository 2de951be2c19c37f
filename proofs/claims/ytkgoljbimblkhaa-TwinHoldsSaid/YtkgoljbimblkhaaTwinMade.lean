/- What 'made' tells of two lists that were held against each other. -/
import Derived.Test.YtkgoljbimblkhaaTwinLaw
import Derived.Test.YtkgoljbimblkhaaBx8
namespace Go.Proofs.Ytkgoljbimblkhaa.B
open Go.RowKit Go.Proofs.Ytkgoljbimblkhaa.Mine Go.Proofs.Ytkgoljbimblkhaa.Sep Go.Proofs.YtkgoljbimblkhaaW.PrintWords Go.Proofs.YtkgoljbimblkhaaW.PrintLast Go.Proofs.YtkgoljbimblkhaaW.PrintMore
set_option linter.unusedVariables false
set_option linter.unusedSimpArgs false
theorem preO_drop : ∀ (i : Nat) (a b : List S66), i ≤ preO a b → preO (a.drop i) (b.drop i) + i = preO a b
  | 0, a, b, _ => rfl
  | i + 1, [], b, h => by rw [preO_nil] at h; omega
  | i + 1, _ :: _, [], h => by rw [preO_nil2] at h; omega
  | i + 1, x :: a, y :: b, h => by
    rw [preO] at h ⊢
    split at h
    · rename_i he
      rw [if_pos he, List.drop_succ_cons, List.drop_succ_cons]
      have := preO_drop i a b (by omega)
      omega
    · omega
theorem preO_le2 (a b : List S66) : preO a b ≤ b.length := by rw [preO_comm]; exact preO_le b a
theorem preO_lt {a b : List S66} {i : Nat} (h : i < preO a b) (ha : i < a.length) (hb : i < b.length) : eqO a[i] b[i] = true := by
  cases he : eqO a[i] b[i] with
  | true => rfl
  | false => have h1 := preO_drop i a b (by omega); have h2 := preO_stop ha hb he; omega
theorem preO_here {a b : List S66} (ha : preO a b < a.length) (hb : preO a b < b.length) : eqO a[preO a b] b[preO a b] = false := by
  cases he : eqO a[preO a b] b[preO a b] with
  | false => rfl
  | true => have h1 := preO_drop (preO a b) a b (Nat.le_refl _); have h2 := preO_step ha hb he; omega
theorem neqO (x y : S66) : (!(x.f0 == y.f0) || (!(x.f1 == y.f1) || (!(x.f2 == y.f2)))) = !eqO x y := by
  unfold eqO
  cases (x.f0 == y.f0) <;> cases (x.f1 == y.f1) <;> cases (x.f2 == y.f2) <;> rfl
theorem seen_tot (a b : List S66) (hab : a.length = b.length) (hl : a.length ≤ 1000000) : ∀ (d i k : Nat), i + d = a.length → i ≤ preO a b → d < k → palingslaw19_Seen.l0 k a b (a.length : Int) (i : Int) = some (decide (preO a b = a.length)) := by
  intro d
  induction d with
  | zero =>
    intro i k hi hp hk
    obtain ⟨k, rfl⟩ : ∃ j, k = j + 1 := ⟨k - 1, by omega⟩
    have := preO_le a b
    rw [palingslaw19_Seen.l0, if_neg (by omega), decide_eq_true (by omega)]
  | succ d ih =>
    intro i k hi hp hk
    obtain ⟨k, rfl⟩ : ∃ j, k = j + 1 := ⟨k - 1, by omega⟩
    have ha : i < a.length := by omega
    have hb : i < b.length := by omega
    rw [palingslaw19_Seen.l0, if_pos (by omega), if_pos (by omega), if_pos (by omega), if_pos (by omega), rdO ha, rdO hb, neqO]
    cases he : eqO a[i] b[i] with
    | true =>
      rw [if_neg (by decide), w64 ((i : Int) + 1) (by omega) (by omega)]
      have h1 := preO_drop i a b hp
      have h2 := preO_step ha hb he
      exact_mod_cast ih (i + 1) k (by omega) (by omega) (by omega)
    | false =>
      have h1 := preO_drop i a b hp
      have h2 := preO_stop ha hb he
      rw [if_pos (by decide), decide_eq_false (by omega)]
theorem seen_all (a b : List S66) (hl : a.length ≤ 1000000) (k : Nat) (hk : 1000001 ≤ k) : palingslaw19_Seen.f k a b = some (allO a b) := by
  have h1 := preO_le a b
  have h2 := preO_le2 a b
  unfold palingslaw19_Seen.f allO
  by_cases h : a.length = b.length
  · have := seen_tot a b h hl a.length 0 k (by omega) (Nat.zero_le _) (by omega)
    rw [if_pos (by omega)]
    rw [show ((0 : Nat) : Int) = 0 from rfl] at this
    rw [this]
    by_cases hp : preO a b = a.length
    · rw [decide_eq_true hp, hp, ← h]; simp
    · have e : ((preO a b : Int) == (a.length : Int)) = false := by simp; omega
      rw [decide_eq_false hp, e]; rfl
  · rw [if_neg (by omega)]
    by_cases hp : preO a b = a.length
    · have e : ((preO a b : Int) == (b.length : Int)) = false := by simp; omega
      rw [e, Bool.and_false]
    · have e : ((preO a b : Int) == (a.length : Int)) = false := by simp; omega
      rw [e]; rfl
theorem made_l0 (a b : List S66) (la : a.length ≤ 1000000) (lb : b.length ≤ 1000000) : ∀ (d i k : Nat), i + d = a.length → d + 1000001 < k → palingslaw24_made.l0 k a b ((min i (preO a b) : Nat) : Int) (a.length : Int) (i : Int) (preO a b : Int) (allO a b) a b = some true := by
  intro d
  induction d with
  | zero =>
    intro i k hi hk
    obtain ⟨k, rfl⟩ : ∃ j, k = j + 1 := ⟨k - 1, by omega⟩
    have := preO_le a b
    rw [palingslaw24_made.l0, if_neg (by omega), if_pos (by omega), seen_all a b la k (by omega), Option.bind_some, if_pos (by simp), seen_all a a la k (by omega), Option.bind_some, if_pos (allO_refl a), seen_all b b lb k (by omega), Option.bind_some, allO_refl]
  | succ d ih =>
    intro i k hi hk
    obtain ⟨k, rfl⟩ : ∃ j, k = j + 1 := ⟨k - 1, by omega⟩
    have ha : i < a.length := by omega
    have hp2 := preO_le2 a b
    have hn := ih (i + 1) k (by omega) (by omega)
    rw [palingslaw24_made.l0, if_pos (by omega), w64 ((i : Int) + 1) (by omega) (by omega)]
    by_cases h1 : i ≤ preO a b
    · rw [if_pos (by omega)]
      by_cases h2 : i < b.length
      · rw [if_pos (by omega), if_pos (by omega), if_pos (by omega), rdO ha, rdO h2]
        change (if eqO a[i] b[i] = true then _ else _) = _
        by_cases h3 : i < preO a b
        · rw [if_pos (preO_lt h3 ha h2), w64 _ (by omega) (by omega), show ((min i (preO a b) : Nat) : Int) + 1 = ((min (i + 1) (preO a b) : Nat) : Int) by omega]
          exact_mod_cast hn
        · obtain rfl : i = preO a b := by omega
          rw [if_neg (by rw [preO_here ha h2]; decide), show min (preO a b) (preO a b) = min (preO a b + 1) (preO a b) by omega]
          exact_mod_cast hn
      · rw [if_neg (by omega), show min i (preO a b) = min (i + 1) (preO a b) by omega]
        exact_mod_cast hn
    · rw [if_neg (by omega), show min i (preO a b) = min (i + 1) (preO a b) by omega]
      exact_mod_cast hn
theorem made_true (a b : List S66) (la : a.length ≤ 1000000) (lb : b.length ≤ 1000000) : palingslaw24_made.f 2000010 (preO a b : Int) (allO a b) a b a b = some true := by
  have := made_l0 a b la lb a.length 0 2000010 (by omega) (by omega)
  rw [Nat.zero_min] at this
  exact this
section
variable {W0 w : World} {L : List Chunk} {Ac : Option Addr} {cc : Nat} {code : List S56} {Aa : Option Addr} {ca : Nat} {arrs : List S60} {st me win : Int} {Ai : Option Addr} {ci : Nat} {ins : List (List Int)} {Aj : Option Addr} {cj : Nat} {jns : List (List Int)} {As : Option Addr} {cs : Nat} {script : List (Int × Int)}
/-- What Told answers, whatever the window. -/
theorem told_any (hI : Img L W0 Ac cc code Aa ca arrs Ai ci ins) (hJ : Img L W0 Ac cc code Aa ca arrs Aj cj jns) (hF : Fine code arrs st me ins) (hG : Fine code arrs st me jns) (hScr : ∀ w, Sat W0 w L → Kd.C kDeed w As script.length script) (hsl : script.length ≤ 1000) (HS : Sat W0 w L) :
    Calls Try.prog 8 #[.agg #[.slice Ac code.length cc, .slice Aa arrs.length ca, .int .i64 st, .int .i64 me, .slice Ai ins.length ci, .slice Aj jns.length cj], .int .i64 win, .slice As script.length cs] w fun e w' => ∃ (n : Int) (q : Bool) (A1 : Option Addr) (n1 c1 : Nat) (A2 : Option Addr) (n2 c2 : Nat) (f : Int), e = .returned (.tuple #[.agg #[.int .i64 n, .bool q, .slice A1 n1 c1, .slice A2 n2 c2], .int .i64 f]) ∧ Sat W0 w' L := by
  by_cases hw : win < 1 ∨ 1000 < win
  · exact (told_window hF hw hI HS).mono fun e w' ⟨h1, h2⟩ => ⟨_, _, _, _, _, _, _, _, _, h1, h2⟩
  · exact (told_calls hI hJ hF hG (by omega) (by omega) hScr hsl _ _ ⟨rfl⟩ ⟨rfl⟩ HS).mono fun e w' ⟨A1, c1, A2, c2, h1, h2⟩ => ⟨_, _, _, _, _, _, _, _, _, h1, h2.tail.tail⟩
end
end Go.Proofs.Ytkgoljbimblkhaa.B
