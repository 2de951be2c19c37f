/- A text may be so long, and no longer: the law LexLong for every number. -/
import Derived.Test.YtfljigegjhnidaaDoorLexAgainLaw
import Derived.Test.YtfljigegjhnidaaDoorLexLongW
namespace Go.Proofs.YtfljigegjhnidaaDoor.B
open Go.RowKit Go.Proofs.YtfljigegjhnidaaDoorW.PrintWords Go.Proofs.YtfljigegjhnidaaDoorW.PrintLast Go.Proofs.YtfljigegjhnidaaDoorW.PrintMore
set_option linter.unusedVariables false
set_option linter.unusedSimpArgs false

theorem i64_and65535 (n : Int) : Go.bits .and .i64 n 65535 = n % 65536 := by
  have h127 : (BitVec.ofInt 64 65535).toNat = 2 ^ 16 - 1 := by decide
  have key : (BitVec.ofInt 64 n &&& BitVec.ofInt 64 65535).toNat = (n % ((2 ^ 64 : Nat) : Int)).toNat % 2 ^ 16 := by
    rw [BitVec.toNat_and, BitVec.toNat_ofInt, h127, Nat.and_two_pow_sub_one_eq_mod]
  show IntKind.i64.wrap ((BitVec.ofInt 64 n &&& BitVec.ofInt 64 65535).toNat : Nat) = n % 65536
  rw [key, IntKind.wrap_i64]
  omega
theorem set_rep (N m : Nat) (h : m < N) (a b : Int) : (List.replicate N a).set m b = List.replicate m a ++ b :: List.replicate (N - 1 - m) a := by
  obtain ⟨d, rfl⟩ : ∃ d, N = m + (d + 1) := ⟨N - 1 - m, by omega⟩
  rw [← List.replicate_append_replicate, List.set_append_right _ _ (by rw [List.length_replicate]; exact Nat.le_refl _), List.length_replicate, Nat.sub_self, List.replicate_succ, List.set_cons_zero, show m + (d + 1) - 1 - m = d by omega]
theorem lex_spaces {r : List UInt8} {ts : List S34} {e : Int} {q : Int × Int} : ∀ (n : Nat) (p : Int × Int), LexR r (p.1, p.2 + n) ts e q → LexR (List.replicate n 32 ++ r) p ts e q
  | 0, p, h => by simpa using h
  | n + 1, p, h => by
    rw [List.replicate_succ, List.cons_append]
    refine LexR.ws rfl (lex_spaces n _ ?_)
    rw [show adv1 p 32 = (p.1, p.2 + 1) from rfl]
    simp only
    rwa [show p.2 + 1 + (n : Int) = p.2 + ((n + 1 : Nat) : Int) by omega]
theorem lex_one (j : Nat) (p : Int × Int) : LexR (97 :: List.replicate j 32) p [tk 1 [97] 0 p, tk 0 [] 0 (p.1, p.2 + 1 + j)] 0 (0, 0) := by
  have htw : (97 :: List.replicate j (32 : UInt8)).takeWhile (runB true) = [97] := by
    rw [List.takeWhile_cons, if_pos (by decide)]
    cases j with
    | zero => rfl
    | succ j => rw [List.replicate_succ, List.takeWhile_cons, if_neg (by decide)]
  have ht : tokOf (97 :: List.replicate j 32) = .inr (1, [97], 0) := by
    rw [tokOf_cons, if_pos (by decide), htw]
    rfl
  refine .tok _ p 0 (1, [97], 0) _ _ _ (.stop _ (fun x t h => by injection h with h _; rw [← h]; rfl) ?_) (by simp) ht ?_
  · rw [Bool.eq_false_iff]
    intro h
    obtain ⟨t, h⟩ := rem_shape h
    injection h with h _
    exact absurd h (by decide)
  · have h := lex_spaces (r := []) (ts := [tk 0 [] 0 (p.1, p.2 + 1 + j)]) (e := 0) (q := (0, 0)) j (p.1, p.2 + 1) (.stop [] _ 0 (.stop _ (fun x t h => by cases h) rfl) rfl)
    rw [List.append_nil] at h
    exact h
theorem long_l0 (n : Int) (m : Nat) (hm : m < 65536) (hn : Go.bits .and .i64 n 65535 = (m : Int)) : ∀ (d j k : Nat), j + d = 65536 → 400000 + d ≤ k →
    palingslaw02_LexLong.l0 k n (List.replicate j 32 ++ List.replicate d 0) 65536 j = some true := by
  intro d
  induction d with
  | zero =>
    intro j k hj hk
    obtain ⟨k, rfl⟩ : ∃ i, k = i + 1 := ⟨k - 1, by omega⟩
    obtain rfl : j = 65536 := by omega
    have hlen : ((List.replicate 65536 (32 : Int)).length : Int) = 65536 := by rw [List.length_replicate]; rfl
    have hset : By (strOfNums ((List.replicate 65536 (32 : Int)).set m 97)) = List.replicate m 32 ++ 97 :: List.replicate (65535 - m) 32 := by
      rw [By, strOfNums_data, set_rep 65536 m hm, List.map_append, List.map_cons, List.map_replicate, List.map_replicate]
      rfl
    have hsz : (strOfNums ((List.replicate 65536 (32 : Int)).set m 97)).size = 65536 := by rw [strOfNums_size, List.length_set, List.length_replicate]
    have hlex : LexR (By (strOfNums ((List.replicate 65536 (32 : Int)).set m 97))) (1, 1) [tk 1 [97] 0 (1, 1 + m), tk 0 [] 0 (1, 1 + m + 1 + (65535 - m : Nat))] 0 (0, 0) := by rw [hset]; exact lex_spaces m (1, 1) (lex_one (65535 - m) (1, 1 + m))
    have ha := all_eq _ (by omega) hlex k (by omega)
    have hb := all_long (strOfNums ((List.replicate 65536 (32 : Int)).set m 97) ++ ⟨#[32]⟩) (by rw [ByteArray.size_append, hsz]; decide) k
    unfold palingslaw02_LexLong.l0
    rw [if_neg (by omega), hn, List.replicate_zero, List.append_nil, if_pos (by omega), hlen, if_pos (by omega), Option.bind_some, Int.toNat_natCast, ha, Option.bind_some, hsz, if_pos (by decide), hb, Option.bind_some, if_pos (show (0 : Int) = 0 from rfl)]
    rw [wrap_small (by omega) (by omega), if_pos (by rfl), if_pos (by rfl)]
    refine (if_pos (show (0 : Int) < ((2 : Nat) : Int) by decide)).trans ?_
    exact (if_pos (show (1 : Int) + (m : Int) = (m : Int) + 1 by omega)).trans rfl
  | succ d ih =>
    intro j k hj hk
    obtain ⟨k, rfl⟩ : ∃ i, k = i + 1 := ⟨k - 1, by omega⟩
    have hlen : ((List.replicate j (32 : Int) ++ List.replicate (d + 1) 0).length : Int) = 65536 := by rw [List.length_append, List.length_replicate, List.length_replicate]; omega
    have hset : (List.replicate j (32 : Int) ++ List.replicate (d + 1) 0).set j 32 = List.replicate (j + 1) 32 ++ List.replicate d 0 := by
      rw [List.set_append_right _ _ (by rw [List.length_replicate]; exact Nat.le_refl _), List.length_replicate, Nat.sub_self, List.replicate_succ, List.set_cons_zero, List.replicate_succ']
      simp
    unfold palingslaw02_LexLong.l0
    rw [if_pos (by omega), if_pos (by omega), hlen, if_pos (by omega), Int.toNat_natCast, hset, wrap_small (by omega) (by omega), show ((j : Int) + 1) = ((j + 1 : Nat) : Int) by omega]
    exact ih (j + 1) k (by omega) (by omega)
theorem lexLong (n : Int) : ∃ k, palingslaw02_LexLong.f k n = some true := by
  refine ⟨500000, ?_⟩
  have h0 : 0 ≤ n % 65536 := Int.emod_nonneg _ (by decide)
  have h1 : n % 65536 < 65536 := Int.emod_lt_of_pos _ (by decide)
  have h := long_l0 n (n % 65536).toNat (by omega) (by rw [i64_and65535]; omega) 65536 0 500000 (by omega) (by omega)
  unfold palingslaw02_LexLong.f
  rw [head_true 500000 (by omega), Option.bind_some, if_pos rfl, if_pos (by decide), Option.bind_some, List.length_replicate]
  exact h
theorem long_walk (n : Int) (w : World) (_ : (Lit.int .i64 n).wf = true) (hL : laidMetH Tryd.prog lexLaid w) :
    Calls Tryd.prog 5 #[.int .i64 n] w fun e w' => e = .returned (.bool true) ∧ Below w.heap.size w w' := by
  obtain ⟨k, h⟩ := lexLong n
  refine (palingslaw02_LexLong.calls k n true w (of_laid hL) h).mono ?_
  rintro e w' ⟨rfl, hd⟩
  exact ⟨rfl, hd⟩
end Go.Proofs.YtfljigegjhnidaaDoor.B
