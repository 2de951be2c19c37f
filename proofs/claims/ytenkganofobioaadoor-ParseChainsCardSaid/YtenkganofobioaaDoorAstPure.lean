/- The texts of trees, in plain Lean. -/
import Derived.Test.YtenkganofobioaaDoorBx0
import Derived.Lib.Join
import Derived.Lib.ItoaLen
import Derived.Test.YtenkganofobioaaDoorAstBase
namespace Go.Proofs.YtenkganofobioaaDoor.B
open Go.RowKit Go.Proofs.YtenkganofobioaaDoor.Mine Go.Proofs.YtenkganofobioaaDoor.Sep Go.Proofs.YtenkganofobioaaDoorW.PrintWords Go.Proofs.YtenkganofobioaaDoorW.PrintLast Go.Proofs.YtenkganofobioaaDoorW.PrintMore
set_option linter.unusedVariables false
set_option linter.unusedSimpArgs false
def txtN (k num : Int) (nm : List UInt8) (op : Int) (ts : List (List UInt8)) : List UInt8 :=
  if k = 1 then Lib.itoa num
  else if k = 2 then (if num = 0 then [102, 97, 108, 115, 101] else [116, 114, 117, 101])
  else if k = 3 then nm
  else if k = 5 then nm ++ [40] ++ Lib.join ts [44, 32] ++ [41]
  else if ts.length = 0 then [63]
  else if k = 4 then nm ++ [91] ++ ts.getD 0 [] ++ [93]
  else if k = 9 then [33] ++ ts.getD 0 []
  else if k = 7 then [40] ++ ts.getD 0 [] ++ [32, 38, 38, 32] ++ ts.getD (ts.length - 1) [] ++ [41]
  else if k = 8 then [40] ++ ts.getD 0 [] ++ [32, 124, 124, 32] ++ ts.getD (ts.length - 1) [] ++ [41]
  else [40] ++ ts.getD 0 [] ++ [32] ++ signF op ++ [32] ++ ts.getD (ts.length - 1) [] ++ [41]
mutual
/-- An expression's text. -/
def txtE : S51 → List UInt8
  | ⟨k, _, num, name, op, kids⟩ => txtN k num name.data.toList op (txtL kids)
def txtL : List S51 → List (List UInt8)
  | [] => []
  | e :: r => txtE e :: txtL r
end
mutual
/-- A bound for an expression's text. -/
def szE : S51 → Nat
  | ⟨_, _, _, name, _, kids⟩ => 64 + name.data.toList.length + szL kids
def szL : List S51 → Nat
  | [] => 0
  | e :: r => 2 * szE e + 2 + szL r
end
def i64 (n : Int) : Prop := -9223372036854775808 ≤ n ∧ n ≤ 9223372036854775807
mutual
/-- Its numbers are of 64 bits. -/
def okE : S51 → Prop
  | ⟨_, _, num, _, _, kids⟩ => i64 num ∧ okL kids
def okL : List S51 → Prop
  | [] => True
  | e :: r => okE e ∧ okL r
end
theorem txtL_map : ∀ l, txtL l = l.map txtE
  | [] => rfl
  | e :: r => by rw [txtL, txtL_map r]; rfl
theorem okL_mem : ∀ {l : List S51} {e}, okL l → e ∈ l → okE e
  | x :: r, e, h, hm => by
    rw [okL] at h
    rcases List.mem_cons.1 hm with rfl | hm
    · exact h.1
    · exact okL_mem h.2 hm
theorem szL_mem : ∀ {l : List S51} {e}, e ∈ l → 2 * szE e + 2 ≤ szL l
  | x :: r, e, hm => by
    rw [szL]
    rcases List.mem_cons.1 hm with rfl | hm
    · omega
    · have := szL_mem hm; omega
theorem itoa_len {n : Int} (h : i64 n) : (Lib.itoa n).length ≤ 21 := Lib.itoa_length_le n h.1 h.2
theorem sign_len (o : Int) : (signF o).length ≤ 2 := by
  unfold signF
  split
  · simp
  · have hl : ∀ x ∈ signList, x.length ≤ 2 := by decide
    rw [List.getD_eq_getElem?_getD]
    cases h : signList[o.toNat]? with
    | none => simp
    | some x => exact hl x (List.mem_of_getElem? h)
theorem join_len : ∀ (ts : List (List UInt8)), (Lib.join ts [44, 32]).length ≤ (ts.map fun t => t.length + 2).sum
  | [] => by simp [Lib.join_nil]
  | x :: r => by
    rw [Lib.join_cons, List.length_append, List.map_cons, List.sum_cons]
    have : ∀ r : List (List UInt8), (Lib.joinTail [44, 32] r).length = (r.map fun t => t.length + 2).sum := by
      intro r
      induction r with
      | nil => rfl
      | cons y r ih =>
        unfold Lib.joinTail at ih ⊢
        rw [List.map_cons, List.flatten_cons, List.length_append, ih, List.map_cons, List.sum_cons]
        simp only [List.length_append, List.length_cons, List.length_nil]
        omega
    have := this r
    omega
theorem getD_len {ts : List (List UInt8)} {i m : Nat} (h : ∀ t ∈ ts, t.length ≤ m) : (ts.getD i []).length ≤ m := by
  rw [List.getD_eq_getElem?_getD]
  cases hx : ts[i]? with
  | none => simp
  | some x => exact h x (List.mem_of_getElem? hx)
theorem szL_sum : ∀ l, szL l = (l.map fun e => 2 * szE e + 2).sum
  | [] => rfl
  | e :: r => by rw [szL, szL_sum r]; simp
theorem sum_le {α : Type} (f g : α → Nat) : ∀ l : List α, (∀ x ∈ l, f x ≤ g x) → (l.map f).sum ≤ (l.map g).sum
  | [], _ => by simp
  | x :: r, h => by
    simp only [List.map_cons, List.sum_cons]
    have := h x (List.mem_cons_self ..)
    have := sum_le f g r (fun y hy => h y (List.mem_cons_of_mem _ hy))
    omega
theorem szL_len : ∀ l : List S51, l.length ≤ szL l
  | [] => Nat.le_refl _
  | e :: r => by rw [szL, List.length_cons]; have := szL_len r; omega
theorem sum_mem {α : Type} (f : α → Nat) : ∀ {l : List α} {x}, x ∈ l → f x ≤ (l.map f).sum
  | y :: r, x, h => by
    simp only [List.map_cons, List.sum_cons]
    rcases List.mem_cons.1 h with rfl | h
    · omega
    · have := sum_mem f h; omega
theorem txtN_len {k num : Int} {nm : List UInt8} {op : Int} {ts : List (List UInt8)} (hn : i64 num) : (txtN k num nm op ts).length ≤ 64 + nm.length + (ts.map fun t => 2 * t.length + 2).sum := by
  have h1 := itoa_len hn
  have h2 := sign_len op
  have h3 := join_len ts
  have h4 := sum_le (fun t : List UInt8 => t.length + 2) (fun t => 2 * t.length + 2) ts (fun t _ => by omega)
  have hg : ∀ i, i < ts.length → 2 * (ts.getD i []).length + 2 ≤ (ts.map fun t => 2 * t.length + 2).sum := fun i hi => by
    rw [List.getD_eq_getElem?_getD, List.getElem?_eq_getElem hi]
    exact sum_mem (fun t : List UInt8 => 2 * t.length + 2) (List.getElem_mem hi)
  unfold txtN
  split; · omega
  split; · split <;> simp <;> omega
  split; · omega
  split; · simp only [List.length_append, List.length_cons, List.length_nil]; omega
  split; · simp only [List.length_cons, List.length_nil]; omega
  have ha := hg 0 (by omega)
  have hb := hg (ts.length - 1) (by omega)
  repeat' split
  all_goals (simp only [List.length_append, List.length_cons, List.length_nil]; omega)
theorem txtE_node (k : Int) (p : S32) (num : Int) (name : ByteArray) (op : Int) (kids : List S51) : txtE ⟨k, p, num, name, op, kids⟩ = txtN k num name.data.toList op (kids.map txtE) := by rw [txtE, txtL_map]
theorem txtE_len : ∀ (e : S51), okE e → (txtE e).length ≤ szE e
  | ⟨k, p, num, name, op, kids⟩, h => by
    rw [okE] at h
    rw [txtE_node, szE, szL_sum]
    have h1 := txtN_len (k := k) (nm := name.data.toList) (op := op) (ts := kids.map txtE) h.1
    rw [List.map_map] at h1
    have h2 := sum_le ((fun t : List UInt8 => 2 * t.length + 2) ∘ txtE) (fun e => 2 * szE e + 2) kids (fun e he => by
      have := txtE_len e (okL_mem h.2 he)
      simp only [Function.comp]
      omega)
    omega
termination_by e => SizeOf.sizeOf e
decreasing_by
  have := List.sizeOf_lt_of_mem he
  simp only [S51.mk.sizeOf_spec]
  omega
end Go.Proofs.YtenkganofobioaaDoor.B
