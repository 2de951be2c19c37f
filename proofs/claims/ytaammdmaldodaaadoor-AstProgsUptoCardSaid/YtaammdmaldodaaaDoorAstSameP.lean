/- What the law AstSame leans on, in plain Lean: trees that are few, trees elsewhere, trees that are turned. -/
import Derived.Test.YtaammdmaldodaaaDoorAstEq
import Derived.Test.YtaammdmaldodaaaDoorBx2
namespace Go.Proofs.YtaammdmaldodaaaDoor.B
open Go.RowKit Go.Proofs.YtaammdmaldodaaaDoor.Mine Go.Proofs.YtaammdmaldodaaaDoor.Sep Go.Proofs.YtaammdmaldodaaaDoorW.PrintWords Go.Proofs.YtaammdmaldodaaaDoorW.PrintLast Go.Proofs.YtaammdmaldodaaaDoorW.PrintMore
set_option linter.unusedVariables false
set_option linter.unusedSimpArgs false
/-- Of few parts, so many layers at most. -/
def fewN : Nat → S31 → Bool
  | 0, _ => false
  | n + 1, e => decide (e.f5.length ≤ 6) && (decide (e.f3.size ≤ 40) && e.f5.all (fewN n))
theorem few_l0 (n : Nat) (deep : Int) (hd : deep + (n : Int) = 8) (h0 : 0 ≤ deep) (ih : ∀ (e : S31) k, 10 * n + 5 ≤ k → palingslaw03_Few.f k e.f0 e.f1.f0 e.f1.f1 e.f2 e.f3 e.f4 e.f5 (deep + 1) = some (fewN n e)) (l : List S31) (hl : l.length ≤ 6) :
    ∀ (d i k : Nat), i + d = l.length → 10 * n + 6 + d ≤ k → palingslaw03_Few.l0 k deep l (l.length : Int) (i : Int) = some ((l.drop i).all (fewN n)) := by
  intro d
  induction d with
  | zero =>
    intro i k hi hk
    obtain ⟨k, rfl⟩ : ∃ j, k = j + 1 := ⟨k - 1, by omega⟩
    rw [palingslaw03_Few.l0, if_neg (by omega), List.drop_eq_nil_of_le (by omega)]
    rfl
  | succ d ihd =>
    intro i k hi hk
    obtain ⟨k, rfl⟩ : ∃ j, k = j + 1 := ⟨k - 1, by omega⟩
    have hil : i < l.length := by omega
    rw [palingslaw03_Few.l0, if_pos (by omega), if_pos (by omega), if_pos (by omega), rdE' hil, w64 (deep + 1) (by omega) (by omega), ih l[i] k (by omega), Option.bind_some, w64 ((i : Int) + 1) (by omega) (by omega), List.drop_eq_getElem_cons hil, List.all_cons]
    cases fewN n l[i] with
    | false => rfl
    | true => rw [if_pos rfl, Bool.true_and]; exact_mod_cast ihd (i + 1) k (by omega) (by omega)
theorem few_f : ∀ (n : Nat) (deep : Int), deep + (n : Int) = 9 → 0 ≤ deep → ∀ (e : S31) (k : Nat), 10 * n + 5 ≤ k → palingslaw03_Few.f k e.f0 e.f1.f0 e.f1.f1 e.f2 e.f3 e.f4 e.f5 deep = some (fewN n e)
  | 0, deep, hd, h0, e, k, hk => by
    obtain ⟨k, rfl⟩ : ∃ j, k = j + 2 := ⟨k - 2, by omega⟩
    rw [palingslaw03_Few.f, if_pos (by omega), palingslaw03_Few.j0, if_pos rfl, fewN]
  | n + 1, deep, hd, h0, e, k, hk => by
    obtain ⟨k, rfl⟩ : ∃ j, k = j + 2 := ⟨k - 2, by omega⟩
    rw [palingslaw03_Few.f, if_neg (by omega), fewN]
    by_cases h6 : e.f5.length ≤ 6
    · rw [if_neg (by omega), decide_eq_true h6, Bool.true_and, palingslaw03_Few.j0]
      by_cases h40 : e.f3.size ≤ 40
      · rw [decide_eq_false (by omega), if_neg (by decide), decide_eq_true h40, Bool.true_and]
        have := few_l0 n deep (by omega) h0 (fun e k hk => few_f n (deep + 1) (by omega) (by omega) e k hk) e.f5 h6 e.f5.length 0 k (by omega) (by omega)
        exact_mod_cast this
      · rw [decide_eq_true (show (e.f3.size : Int) > 40 by omega), if_pos rfl, decide_eq_false h40, Bool.false_and]
    · rw [if_pos (by omega), palingslaw03_Few.j0, if_pos rfl, decide_eq_false h6, Bool.false_and]
/-- How great a tree of so many layers may be. -/
def bigN : Nat → Nat
  | 0 => 0
  | n + 1 => 104 + 6 * (2 * bigN n + 2)
theorem szL_few {n b : Nat} : ∀ (l : List S31), (∀ e ∈ l, szE e ≤ b) → szL l ≤ l.length * (2 * b + 2)
  | [], _ => by rw [szL]; omega
  | e :: r, h => by
    have h1 := h e (List.mem_cons_self ..)
    have h2 := szL_few (n := n) r (fun x hx => h x (List.mem_cons_of_mem _ hx))
    rw [szL, List.length_cons, Nat.add_mul]
    omega
theorem few_size : ∀ (n : Nat) (e : S31), fewN n e = true → szE e ≤ bigN n
  | 0, e, h => by rw [fewN] at h; cases h
  | n + 1, ⟨k, p, num, name, op, kids⟩, h => by
    rw [fewN] at h
    simp only [Bool.and_eq_true, decide_eq_true_eq, List.all_eq_true] at h
    obtain ⟨h1, h2, h3⟩ := h
    have h4 := szL_few (n := n) kids (fun e he => few_size n e (h3 e he))
    have h5 : kids.length * (2 * bigN n + 2) ≤ 6 * (2 * bigN n + 2) := Nat.mul_le_mul_right _ h1
    have h6 : name.data.toList.length ≤ 40 := by rw [Array.length_toList]; exact h2
    rw [szE, bigN]
    omega
theorem big9 : bigN 9 ≤ MX := by decide +kernel
theorem few_mx {e : S31} (h : fewN 9 e = true) : szE e ≤ MX := Nat.le_trans (few_size 9 e h) big9
mutual
/-- A tree, elsewhere. -/
def shf (a : Int) : S31 → S31
  | ⟨k, _, num, name, op, kids⟩ => ⟨k, ⟨a, a⟩, num, name, op, shfL a kids⟩
def shfL (a : Int) : List S31 → List S31
  | [] => []
  | e :: r => shf a e :: shfL a r
end
theorem shfL_map (a : Int) : ∀ l, shfL a l = l.map (shf a)
  | [] => by rw [shfL]; rfl
  | e :: r => by rw [shfL, shfL_map a r]; rfl
theorem shf_eq (a : Int) (e : S31) : shf a e = ⟨e.f0, ⟨a, a⟩, e.f2, e.f3, e.f4, e.f5.map (shf a)⟩ := by cases e; rw [shf, shfL_map]
theorem shift_l0 (n : Nat) (a : Int) (ih : ∀ (e : S31) k, fewN n e = true → 10 * n + 5 ≤ k → palingslaw03_shift.f k e.f0 e.f1.f0 e.f1.f1 e.f2 e.f3 e.f4 e.f5 a = some (e.f0, a, a, e.f2, e.f3, e.f4, e.f5.map (shf a)))
    (l : List S31) (hl : l.length ≤ 6) (hf : l.all (fewN n) = true) (y0 y1 y2 y3 y5 : Int) (y4 : ByteArray) (y6 : List S31) :
    ∀ (d i k : Nat), i + d = l.length → 10 * n + 6 + d ≤ k → palingslaw03_shift.l0 k a ((l.take i).map (shf a)) l (l.length : Int) (i : Int) y0 y1 y2 y3 y4 y5 y6 = some (y0, y1, y2, y3, y4, y5, l.map (shf a)) := by
  intro d
  induction d with
  | zero =>
    intro i k hi hk
    obtain ⟨k, rfl⟩ : ∃ j, k = j + 1 := ⟨k - 1, by omega⟩
    rw [palingslaw03_shift.l0, if_neg (by omega), show i = l.length by omega, List.take_length]
  | succ d ihd =>
    intro i k hi hk
    obtain ⟨k, rfl⟩ : ∃ j, k = j + 1 := ⟨k - 1, by omega⟩
    have hil : i < l.length := by omega
    have hfi : fewN n l[i] = true := List.all_eq_true.1 hf _ (List.getElem_mem hil)
    rw [palingslaw03_shift.l0, if_pos (by omega), if_pos (by omega), if_pos (by omega), rdE' hil, ih l[i] k hfi (by omega), Option.bind_some, if_pos (by rw [List.length_map, List.length_take]; omega), w64 ((i : Int) + 1) (by omega) (by omega)]
    have h2 : (l.take i).map (shf a) ++ [(⟨l[i].f0, ⟨a, a⟩, l[i].f2, l[i].f3, l[i].f4, l[i].f5.map (shf a)⟩ : S31)] = (l.take (i + 1)).map (shf a) := by
      rw [List.take_succ_eq_append_getElem hil, List.map_append, List.map_cons, List.map_nil, shf_eq]
    rw [h2]
    exact_mod_cast ihd (i + 1) k (by omega) (by omega)
theorem shift_f : ∀ (n : Nat) (a : Int) (e : S31) (k : Nat), fewN n e = true → 10 * n + 5 ≤ k → palingslaw03_shift.f k e.f0 e.f1.f0 e.f1.f1 e.f2 e.f3 e.f4 e.f5 a = some (e.f0, a, a, e.f2, e.f3, e.f4, e.f5.map (shf a))
  | 0, a, e, k, h, hk => by rw [fewN] at h; cases h
  | n + 1, a, e, k, h, hk => by
    obtain ⟨k, rfl⟩ : ∃ j, k = j + 1 := ⟨k - 1, by omega⟩
    rw [fewN] at h
    simp only [Bool.and_eq_true, decide_eq_true_eq] at h
    rw [palingslaw03_shift.f]
    have := shift_l0 n a (fun e k he hk => shift_f n a e k he hk) e.f5 h.1 h.2.2 e.f0 a a e.f2 e.f4 e.f3 e.f5 e.f5.length 0 k (by omega) (by omega)
    exact_mod_cast this
theorem allB_refl {α : Type} (f : α → α → Bool) : ∀ l : List α, (∀ x ∈ l, f x x = true) → allB f l l = true
  | [], _ => rfl
  | x :: r, h => by rw [allB, h x (List.mem_cons_self ..), allB_refl f r (fun y hy => h y (List.mem_cons_of_mem _ hy))]; rfl
theorem allB_comm {α : Type} (f : α → α → Bool) : ∀ l m : List α, (∀ x ∈ l, ∀ y, f x y = f y x) → allB f l m = allB f m l
  | [], [], _ => rfl
  | [], _ :: _, _ => rfl
  | _ :: _, [], _ => rfl
  | x :: a, y :: b, h => by rw [allB, allB, h x (List.mem_cons_self ..) y, allB_comm f a b (fun z hz => h z (List.mem_cons_of_mem _ hz))]
theorem allB_map {α : Type} (f : α → α → Bool) (g : α → α) : ∀ l : List α, (∀ x ∈ l, f x (g x) = true) → allB f l (l.map g) = true
  | [], _ => rfl
  | x :: r, h => by rw [List.map_cons, allB, h x (List.mem_cons_self ..), allB_map f g r (fun y hy => h y (List.mem_cons_of_mem _ hy))]; rfl
theorem beq_comm' {α : Type} [BEq α] [LawfulBEq α] (a b : α) : (a == b) = (b == a) := by rw [Bool.eq_iff_iff, beq_iff_eq, beq_iff_eq]; exact eq_comm
theorem sameE_refl : ∀ e, sameE e e = true
  | ⟨k, p, num, name, op, kids⟩ => by
    rw [sameE_eq]
    simp only [beq_self_eq_true, Bool.true_and]
    exact allB_refl sameE kids (fun e he => sameE_refl e)
termination_by e => SizeOf.sizeOf e
decreasing_by
  have := List.sizeOf_lt_of_mem he
  simp only [S31.mk.sizeOf_spec]
  omega
theorem sameE_comm : ∀ x y, sameE x y = sameE y x
  | ⟨k, p, num, name, op, kids⟩, y => by
    rw [sameE_eq, sameE_eq]
    dsimp only
    rw [beq_comm' k, beq_comm' num, beq_comm' name.toList, beq_comm' op, allB_comm sameE kids y.f5 (fun e he z => sameE_comm e z)]
termination_by x => SizeOf.sizeOf x
decreasing_by
  have := List.sizeOf_lt_of_mem he
  simp only [S31.mk.sizeOf_spec]
  omega
theorem sameE_shf (a : Int) : ∀ e, sameE e (shf a e) = true
  | ⟨k, p, num, name, op, kids⟩ => by
    rw [shf_eq, sameE_eq]
    simp only [beq_self_eq_true, Bool.true_and]
    exact allB_map sameE (shf a) kids (fun e he => sameE_shf a e)
termination_by e => SizeOf.sizeOf e
decreasing_by
  have := List.sizeOf_lt_of_mem he
  simp only [S31.mk.sizeOf_spec]
  omega
/-- The last of two lists differs. -/
theorem allB_last {α : Type} (f : α → α → Bool) (l m : List α) (x y : α) (h : f x y = false) (hl : l.length = m.length) : allB f (l ++ [x]) (m ++ [y]) = false := by
  induction l generalizing m with
  | nil => cases m with
    | nil => rw [List.nil_append, List.nil_append, allB, h, Bool.false_and]
    | cons => simp at hl
  | cons a l ih => cases m with
    | nil => simp at hl
    | cons b m => rw [List.cons_append, List.cons_append, allB, ih m (by simpa using hl), Bool.and_false]
/-- Statements, functions around an expression. -/
def stE (ln : Int) (e : S31) : S38 := ⟨6, ⟨ln, 0⟩, ⟨#[]⟩, [e], [], []⟩
def ifS (s : S38) : S38 := ⟨4, ⟨0, 0⟩, ⟨#[]⟩, [], [s], []⟩
def fnS (s : S38) : S41 := ⟨⟨#[102]⟩, [], [s], ⟨0, 0⟩⟩
theorem same_st (a b : Int) (e o : S31) : sameS (stE a e) (stE b o) = sameE e o := by
  rw [sameS_eq]
  simp [stE, allB]
theorem same_if (s t : S38) : sameS (ifS s) (ifS t) = sameS s t := by
  rw [sameS_eq]
  simp [ifS, allB]
theorem same_fn (s t : S38) : sameF (fnS s) (fnS t) = sameS s t := by
  simp [sameF, fnS, allB]
theorem and7 (n : Int) : Go.bits .and .i64 n 7 = n % 8 := by
  have h1 : (BitVec.ofInt 64 7).toNat = 2 ^ 3 - 1 := by decide
  have key : (BitVec.ofInt 64 n &&& BitVec.ofInt 64 7).toNat = (n % ((2 ^ 64 : Nat) : Int)).toNat % 2 ^ 3 := by
    rw [BitVec.toNat_and, BitVec.toNat_ofInt, h1, Nat.and_two_pow_sub_one_eq_mod]
  show IntKind.i64.wrap ((BitVec.ofInt 64 n &&& BitVec.ofInt 64 7).toNat : Nat) = n % 8
  rw [key, IntKind.wrap_i64]
  omega
theorem wrap_ne (x : Int) : wrap64 (x + 1) ≠ x := by unfold wrap64; omega
end Go.Proofs.YtaammdmaldodaaaDoor.B
