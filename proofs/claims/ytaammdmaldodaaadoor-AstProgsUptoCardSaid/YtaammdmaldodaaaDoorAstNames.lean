/- names, count as the printed functions say, in plain Lean. -/
import Derived.Test.YtaammdmaldodaaaDoorAstScan
import Derived.Test.YtaammdmaldodaaaDoorAstSameP
import Derived.Test.YtaammdmaldodaaaDoorBx5
import Derived.Test.YtaammdmaldodaaaDoorBx6
namespace Go.Proofs.YtaammdmaldodaaaDoor.B
open Go.RowKit Go.Proofs.YtaammdmaldodaaaDoor.Mine Go.Proofs.YtaammdmaldodaaaDoor.Sep Go.Proofs.YtaammdmaldodaaaDoorW.PrintWords Go.Proofs.YtaammdmaldodaaaDoorW.PrintLast Go.Proofs.YtaammdmaldodaaaDoorW.PrintMore
set_option linter.unusedVariables false
set_option linter.unusedSimpArgs false
theorem bt_bs {l : List UInt8} {i : Nat} (h : i < l.length) : bt (bs l) (i : Int) = (l[i].toNat : Int) := by
  have h2 : ((i : Nat) : Int).toNat < (bs l).size := by rw [bs_size, Int.toNat_natCast]; exact h
  rw [← bt_at (bs l) (i : Int) h2]
  rfl
theorem byte_ne {c : UInt8} {n : Nat} (hn : n < 256) : ((c.toNat : Int) = (n : Int)) ↔ c = UInt8.ofNat n := by
  constructor
  · intro h
    apply UInt8.toNat_inj.1
    rw [UInt8.toNat_ofNat']
    omega
  · rintro rfl
    rw [UInt8.toNat_ofNat']
    omega
def NamesF (e : S31) : Prop := ∀ k, szE e ≤ k → palingslaw03_names.f k e.f0 e.f1.f0 e.f1.f1 e.f2 e.f3 e.f4 e.f5 = some (cleanE e)
theorem names_l1 (l : List S31) (hl : l.length ≤ MX) (ih : ∀ e ∈ l, NamesF e) :
    ∀ (d i k : Nat), i + d = l.length → szL (l.drop i) + 1 ≤ k → palingslaw03_names.l1 k l (l.length : Int) (i : Int) = some ((l.drop i).all cleanE) := by
  have hm := mx_le
  intro d
  induction d with
  | zero =>
    intro i k hi hk
    obtain ⟨k, rfl⟩ : ∃ j, k = j + 1 := ⟨k - 1, by omega⟩
    rw [palingslaw03_names.l1, if_neg (by omega), List.drop_eq_nil_of_le (by omega)]
    rfl
  | succ d ihd =>
    intro i k hi hk
    obtain ⟨k, rfl⟩ : ∃ j, k = j + 1 := ⟨k - 1, by omega⟩
    have hil : i < l.length := by omega
    rw [List.drop_eq_getElem_cons hil, szL] at hk
    rw [palingslaw03_names.l1, if_pos (by omega), if_pos (by omega), if_pos (by omega), rdE' hil, ih l[i] (List.getElem_mem hil) k (by omega), Option.bind_some, w64 ((i : Int) + 1) (by omega) (by omega), List.drop_eq_getElem_cons hil, List.all_cons]
    cases cleanE l[i] with
    | false => rfl
    | true => rw [if_pos rfl, Bool.true_and]; exact_mod_cast ihd (i + 1) k (by omega) (by omega)
theorem names_l0 (a0 p0 p1 num op : Int) (nm : List UInt8) (kids : List S31) (hn : nm.length ≤ MX) (hl : kids.length ≤ MX) (ih : ∀ e ∈ kids, NamesF e) :
    ∀ (d i k : Nat), i + d = nm.length → d + szL kids + 2 ≤ k → palingslaw03_names.l0 k (i : Int) a0 p0 p1 num (bs nm) op kids = some ((nm.drop i).all (fun c => c != 10 && c != 9) && kids.all cleanE) := by
  have hm := mx_le
  intro d
  induction d with
  | zero =>
    intro i k hi hk
    obtain ⟨k, rfl⟩ : ∃ j, k = j + 1 := ⟨k - 1, by omega⟩
    rw [palingslaw03_names.l0, if_neg (by rw [bs_size]; omega), List.drop_eq_nil_of_le (by omega)]
    have := names_l1 kids hl ih kids.length 0 k (by omega) (by rw [List.drop_zero]; omega)
    exact this
  | succ d ihd =>
    intro i k hi hk
    obtain ⟨k, rfl⟩ : ∃ j, k = j + 1 := ⟨k - 1, by omega⟩
    have hil : i < nm.length := by omega
    rw [palingslaw03_names.l0, if_pos (by rw [bs_size]; omega), if_pos (by omega), bt_bs hil, List.drop_eq_getElem_cons hil, List.all_cons, w64 ((i : Int) + 1) (by omega) (by omega)]
    have h10 : ((nm[i].toNat : Int) = 10) ↔ nm[i] = 10 := byte_ne (n := 10) (by decide)
    have h9 : ((nm[i].toNat : Int) = 9) ↔ nm[i] = 9 := byte_ne (n := 9) (by decide)
    by_cases c10 : nm[i] = 10
    · rw [if_pos (h10.2 c10), c10]; rfl
    by_cases c9 : nm[i] = 9
    · rw [if_neg (fun h => c10 (h10.1 h)), if_pos (h9.2 c9), c9]; rfl
    · rw [if_neg (fun h => c10 (h10.1 h)), if_neg (fun h => c9 (h9.1 h))]
      have e : (nm[i] != 10 && nm[i] != 9) = true := by simp [c10, c9]
      rw [e, Bool.true_and]
      exact_mod_cast ihd (i + 1) k (by omega) (by omega)
theorem names_f : ∀ (e : S31), szE e ≤ MX → NamesF e
  | ⟨a0, ⟨p0, p1⟩, num, name, op, kids⟩, hs => by
    have ih : ∀ e ∈ kids, NamesF e := fun e he => names_f e (by rw [szE] at hs; have := szL_mem he; omega)
    intro k hk
    rw [szE] at hs hk
    have hkl := szL_len kids
    obtain ⟨k, rfl⟩ : ∃ j, k = j + 1 := ⟨k - 1, by omega⟩
    dsimp only
    rw [palingslaw03_names.f, cleanE, cleanL_all]
    have := names_l0 a0 p0 p1 num op name.data.toList kids (by omega) (by omega) ih name.data.toList.length 0 k (by omega) (by omega)
    exact this
termination_by e => SizeOf.sizeOf e
decreasing_by
  have := List.sizeOf_lt_of_mem he
  simp only [S31.mk.sizeOf_spec]
  omega
end Go.Proofs.YtaammdmaldodaaaDoor.B
