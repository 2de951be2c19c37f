/- What the laws of layer 20 lean on. -/
import Derived.Test.YtiafbpbbhgpjkaaSpecHead
import Derived.Test.YtiafbpbbhgpjkaaMachEq
import Derived.Test.YtiafbpbbhgpjkaaBx6
namespace Go.Proofs.Ytiafbpbbhgpjkaa.B
open Go.RowKit Go.Proofs.Ytiafbpbbhgpjkaa.Mine Go.Proofs.Ytiafbpbbhgpjkaa.Sep Go.Proofs.YtiafbpbbhgpjkaaW.PrintWords Go.Proofs.YtiafbpbbhgpjkaaW.PrintLast Go.Proofs.YtiafbpbbhgpjkaaW.PrintMore
set_option linter.unusedVariables false
set_option linter.unusedSimpArgs false
theorem and31 (n : Int) : Go.bits .and .i64 n 31 = n % 32 := by
  have h1 : (BitVec.ofInt 64 31).toNat = 2 ^ 5 - 1 := by decide
  have key : (BitVec.ofInt 64 n &&& BitVec.ofInt 64 31).toNat = (n % ((2 ^ 64 : Nat) : Int)).toNat % 2 ^ 5 := by
    rw [BitVec.toNat_and, BitVec.toNat_ofInt, h1, Nat.and_two_pow_sub_one_eq_mod]
  show IntKind.i64.wrap ((BitVec.ofInt 64 n &&& BitVec.ofInt 64 31).toNat : Nat) = n % 32
  rw [key, IntKind.wrap_i64]
  omega
theorem and15 (n : Int) : Go.bits .and .i64 n 15 = n % 16 := by
  have h1 : (BitVec.ofInt 64 15).toNat = 2 ^ 4 - 1 := by decide
  have key : (BitVec.ofInt 64 n &&& BitVec.ofInt 64 15).toNat = (n % ((2 ^ 64 : Nat) : Int)).toNat % 2 ^ 4 := by
    rw [BitVec.toNat_and, BitVec.toNat_ofInt, h1, Nat.and_two_pow_sub_one_eq_mod]
  show IntKind.i64.wrap ((BitVec.ofInt 64 n &&& BitVec.ofInt 64 15).toNat : Nat) = n % 16
  rw [key, IntKind.wrap_i64]
  omega
theorem and7 (n : Int) : Go.bits .and .i64 n 7 = n % 8 := by
  have h1 : (BitVec.ofInt 64 7).toNat = 2 ^ 3 - 1 := by decide
  have key : (BitVec.ofInt 64 n &&& BitVec.ofInt 64 7).toNat = (n % ((2 ^ 64 : Nat) : Int)).toNat % 2 ^ 3 := by
    rw [BitVec.toNat_and, BitVec.toNat_ofInt, h1, Nat.and_two_pow_sub_one_eq_mod]
  show IntKind.i64.wrap ((BitVec.ofInt 64 n &&& BitVec.ofInt 64 7).toNat : Nat) = n % 8
  rw [key, IntKind.wrap_i64]
  omega
theorem eqg_eql (x y : Operand) (p q : Array Value) (w : World) : (Go.eqGuard .eql 37 x y (.agg p) (.agg q)).run Try.prog w = .ok () w := by kernel_rfl
theorem eqg_neq (x y : Operand) (p q : Array Value) (w : World) : (Go.eqGuard .neq 37 x y (.agg p) (.agg q)).run Try.prog w = .ok () w := by kernel_rfl
theorem run_eql_op {a : Act} {o : Oper} {x y : Operand} {s : St} (hs : s.regs.length = 64) (ho : o.op = .binOp .eql 37 x y 37) (hx : a.eval x = .agg (stL s).toArray) (hy : a.eval y = .agg (stL s).toArray) (w : World) :
    (execOp a.eval o).run Try.prog w = .ok (.value (.bool true)) w := by
  unfold execOp
  simp only [ho, hx, hy, Sem.run_bind, eqg_eql, same_eql s hs w, Result.andThen_ok, Sem.run_pure]
theorem run_neq_op {a : Act} {o : Oper} {x y : Operand} {s : St} (hs : s.regs.length = 64) (ho : o.op = .binOp .neq 37 x y 37) (hx : a.eval x = .agg (stL s).toArray) (hy : a.eval y = .agg (stL s).toArray) (w : World) :
    (execOp a.eval o).run Try.prog w = .ok (.value (.bool false)) w := by
  unfold execOp
  simp only [ho, hx, hy, Sem.run_bind, eqg_neq, same_neq s hs w, Result.andThen_ok, Sem.run_pure]
theorem seen_l0 (l : List S60) (hl : l.length ≤ 1000000) : ∀ (d i k : Nat), i + d = l.length → d < k → palingslaw19_Seen.l0 k l l (l.length : Int) (i : Int) = some true := by
  intro d
  induction d with
  | zero =>
    intro i k hi hk
    obtain ⟨k, rfl⟩ : ∃ j, k = j + 1 := ⟨k - 1, by omega⟩
    rw [palingslaw19_Seen.l0, if_neg (by omega)]
  | succ d ih =>
    intro i k hi hk
    obtain ⟨k, rfl⟩ : ∃ j, k = j + 1 := ⟨k - 1, by omega⟩
    rw [palingslaw19_Seen.l0, if_pos (by omega), if_pos (by omega), if_pos (by omega), if_pos (by omega), if_neg (by simp), w64 ((i : Int) + 1) (by omega) (by omega)]
    exact_mod_cast ih (i + 1) k (by omega) (by omega)
theorem seen_same (l : List S60) (hl : l.length ≤ 1000000) : palingslaw19_Seen.f 1000001 l l = some true := by
  unfold palingslaw19_Seen.f
  rw [if_pos rfl]
  exact_mod_cast seen_l0 l hl l.length 0 1000001 (by omega) (by omega)
section
variable {g : Nat} {A : Option Addr} {n c : Nat} {vc vt : Value} {win : Int} {W0 w : World} {L : List Chunk}
theorem mstate_at {X : SM} (HS : Sat W0 w L) (i : Nat) (hi : L[i]? = some (mch g A n c vc vt win X)) : ∀ j v, (stL X.s)[j]? = some v → w.cell? ((⟨g, 0, none⟩ : Addr).add j) = some v := by
  intro j v hj
  have HM := mchC HS i hi
  have hj2 := (List.getElem?_eq_some_iff.1 hj).1
  rw [stL_length HM.1] at hj2
  rw [show (⟨g, 0, none⟩ : Addr).add j = ⟨g, j, none⟩ from by unfold Addr.add; split <;> simp_all, HM.2.1 j hj2]
  exact hj
set_option maxRecDepth 100000 in
set_option maxHeartbeats 1000000 in
theorem guesses_at {X : SM} (hn : X.n ≤ 1000000) (i : Nat) (hi : L[i]? = some (mch g A n c vc vt win X)) (HS : Sat W0 w L) :
    Calls Try.prog 17 #[.pointer (some ⟨g, 0, none⟩)] w fun e w' => e = .returned (.bool X.saved.isSome) ∧ Sat W0 w' L := by
  have HM := Aside0.mk HS
  obtain ⟨vb, vs, hs, HT⟩ := mOpen (HS.front i hi)
  obtain ⟨⟨As, cs, rfl, hcs⟩, hsv⟩ := svdSlice HT 3 rfl
  have c73 : w.cell? ⟨g, 72, none⟩ = some (.slice As X.n cs) := mcellT hs HT 0 rfl 3
  rw [hsv]
  clear hsv HS HT
  go_enter Try.func17, Try.ntmps17
  go_wp2
  go_ret
  exact ⟨rfl, HM.out⟩
end
end Go.Proofs.Ytiafbpbbhgpjkaa.B
