/- What the laws of layer 24 lean on. -/
import Derived.Test.YtkgoljbimblkhaaTwinTold
namespace Go.Proofs.Ytkgoljbimblkhaa.B
open Go.RowKit Go.Proofs.Ytkgoljbimblkhaa.Mine Go.Proofs.Ytkgoljbimblkhaa.Sep Go.Proofs.YtkgoljbimblkhaaW.PrintWords Go.Proofs.YtkgoljbimblkhaaW.PrintLast Go.Proofs.YtkgoljbimblkhaaW.PrintMore
set_option linter.unusedVariables false
set_option linter.unusedSimpArgs false
theorem and31 (n : Int) : Go.bits .and .i64 n 31 = n % 32 := by
  have h1 : (BitVec.ofInt 64 31).toNat = 2 ^ 5 - 1 := by decide
  have key : (BitVec.ofInt 64 n &&& BitVec.ofInt 64 31).toNat = (n % ((2 ^ 64 : Nat) : Int)).toNat % 2 ^ 5 := by
    rw [BitVec.toNat_and, BitVec.toNat_ofInt, h1, Nat.and_two_pow_sub_one_eq_mod]
  show IntKind.i64.wrap ((BitVec.ofInt 64 n &&& BitVec.ofInt 64 31).toNat : Nat) = n % 32
  rw [key, IntKind.wrap_i64]
  omega
theorem and15 (n : Int) : Go.bits .and .i64 n 15 = n % 16 := by
  have h1 : (BitVec.ofInt 64 15).toNat = 2 ^ 4 - 1 := by decide
  have key : (BitVec.ofInt 64 n &&& BitVec.ofInt 64 15).toNat = (n % ((2 ^ 64 : Nat) : Int)).toNat % 2 ^ 4 := by
    rw [BitVec.toNat_and, BitVec.toNat_ofInt, h1, Nat.and_two_pow_sub_one_eq_mod]
  show IntKind.i64.wrap ((BitVec.ofInt 64 n &&& BitVec.ofInt 64 15).toNat : Nat) = n % 16
  rw [key, IntKind.wrap_i64]
  omega
theorem allO_comm (a b : List S66) : allO a b = allO b a := by unfold allO; rw [preO_comm a b, Bool.and_comm]
/-- The image and an input, as they were. -/
theorem img_old {W : World} {L : List Chunk} {Ac : Option Addr} {cc : Nat} {code : List S56} {Aa : Option Addr} {ca : Nat} {arrs : List S60} {Ai : Option Addr} {ci : Nat} {ins : List (List Int)} (hC : Kd.C k56 W Ac code.length code) (hcc : code.length ≤ cc) (hA : Kd.C k60 W Aa arrs.length arrs) (hca : arrs.length ≤ ca) (hI : Kd.C (Kd.slice 2 (Kd.int .i64)) W Ai ins.length ins) (i : Nat) (hi : L[i]? = some (old W)) : Img L W Ac cc code Aa ca arrs Ai ci ins :=
  ⟨fun w h => Kd.C_below hC (h.old i hi), hcc, fun w h => Kd.C_below hA (h.old i hi), hca, fun w h => Kd.C_below hI (h.old i hi)⟩
end Go.Proofs.Ytkgoljbimblkhaa.B
