/- FewStmts as the printed function says, in plain Lean; what texts it lets in. -/
import Derived.Test.YtaammdmaldodaaaDoorAstCount
import Derived.Test.YtaammdmaldodaaaDoorBx3
namespace Go.Proofs.YtaammdmaldodaaaDoor.B
open Go.RowKit Go.Proofs.YtaammdmaldodaaaDoor.Mine Go.Proofs.YtaammdmaldodaaaDoor.Sep Go.Proofs.YtaammdmaldodaaaDoorW.PrintWords Go.Proofs.YtaammdmaldodaaaDoorW.PrintLast Go.Proofs.YtaammdmaldodaaaDoorW.PrintMore
set_option linter.unusedVariables false
set_option linter.unusedSimpArgs false
/-- One statement is small, its lists as f says. -/
def fewOne (f : List S38 → Bool) (s : S38) : Bool := decide (s.f2.size ≤ 40) && (decide (s.f3.length ≤ 3) && (f s.f4 && (f s.f5 && s.f3.all (fewN 9))))
def fewSs : Nat → List S38 → Bool
  | 0, _ => false
  | n + 1, l => decide (l.length ≤ 8) && l.all (fewOne (fewSs n))
theorem fews_l1 (deep : Int) (l : List S38) (i : Nat) (hi : i < l.length) (hl8 : l.length ≤ 8) (es : List S31) (he : es.length ≤ 3) (R : Option Bool) (kr : Nat)
    (hr : ∀ k, kr ≤ k → palingslaw03_FewStmts.l0 k deep l (l.length : Int) ((i + 1 : Nat) : Int) = R) :
    ∀ (d j k : Nat), j + d = es.length → 100 + d ≤ k → d + 1 + kr ≤ k → palingslaw03_FewStmts.l1 k deep l (l.length : Int) (i : Int) es (es.length : Int) (j : Int) = if (es.drop j).all (fewN 9) = true then R else some false := by
  intro d
  induction d with
  | zero =>
    intro j k hj hk hk2
    obtain ⟨k, rfl⟩ : ∃ q, k = q + 1 := ⟨k - 1, by omega⟩
    rw [palingslaw03_FewStmts.l1, if_neg (by omega), List.drop_eq_nil_of_le (by omega), w64 ((i : Int) + 1) (by omega) (by omega)]
    have := hr k (by omega)
    rw [show ((i : Int) + 1) = ((i + 1 : Nat) : Int) by omega, this]
    rfl
  | succ d ihd =>
    intro j k hj hk hk2
    obtain ⟨k, rfl⟩ : ∃ q, k = q + 1 := ⟨k - 1, by omega⟩
    have hjl : j < es.length := by omega
    rw [palingslaw03_FewStmts.l1, if_pos (by omega), if_pos (by omega), if_pos (by omega), rdE hjl, few_f 9 0 (by omega) (by omega) es[j] k (by omega), Option.bind_some, w64 ((j : Int) + 1) (by omega) (by omega), List.drop_eq_getElem_cons hjl, List.all_cons]
    cases fewN 9 es[j] with
    | false => rfl
    | true => rw [if_pos rfl, Bool.true_and]; exact_mod_cast ihd (j + 1) k (by omega) (by omega) (by omega)
theorem fews_l0 (deep : Int) (h0 : 0 ≤ deep) (h7 : deep ≤ 6) (K : Nat) (f : List S38 → Bool) (ih : ∀ l k, K ≤ k → palingslaw03_FewStmts.f k l (deep + 1) = some (f l)) (l : List S38) (hl : l.length ≤ 8) :
    ∀ (d i k : Nat), i + d = l.length → K + 200 + 10 * d ≤ k → palingslaw03_FewStmts.l0 k deep l (l.length : Int) (i : Int) = some ((l.drop i).all (fewOne f)) := by
  intro d
  induction d with
  | zero =>
    intro i k hi hk
    obtain ⟨k, rfl⟩ : ∃ j, k = j + 1 := ⟨k - 1, by omega⟩
    rw [palingslaw03_FewStmts.l0, if_neg (by omega), List.drop_eq_nil_of_le (by omega)]
    rfl
  | succ d ihd =>
    intro i k hi hk
    obtain ⟨k, rfl⟩ : ∃ j, k = j + 2 := ⟨k - 2, by omega⟩
    have hil : i < l.length := by omega
    have hj : ∀ b x0 x1 x2 x3 x4 x5, palingslaw03_FewStmts.j2 (k + 1) deep l (l.length : Int) (i : Int) true b x0 x1 x2 x3 x4 x5 = some false := fun _ _ _ _ _ _ _ => by rw [palingslaw03_FewStmts.j2, if_pos rfl]
    rw [palingslaw03_FewStmts.l0, if_pos (by omega), if_pos (by omega), if_pos (by omega), rdS hil, List.drop_eq_getElem_cons hil, List.all_cons]
    generalize l[i] = s
    unfold fewOne
    by_cases h40 : s.f2.size ≤ 40
    · rw [if_neg (by omega), decide_eq_true h40, Bool.true_and]
      by_cases h3 : s.f3.length ≤ 3
      · rw [if_neg (by omega), decide_eq_true h3, Bool.true_and, w64 (deep + 1) (by omega) (by omega), ih s.f4 (k + 1) (by omega), Option.bind_some]
        cases f s.f4 with
        | false => rw [if_neg (by decide), hj]; rfl
        | true =>
          rw [if_pos rfl, ih s.f5 (k + 1) (by omega), Option.bind_some]
          cases f s.f5 with
          | false => exact hj _ _ _ _ _ _ _
          | true =>
            rw [palingslaw03_FewStmts.j2, if_neg (by decide)]
            have := fews_l1 deep l i hil hl s.f3 h3 (some ((l.drop (i + 1)).all (fewOne f))) (K + 200 + 10 * d) (fun q hq => ihd (i + 1) q (by omega) hq) s.f3.length 0 k (by omega) (by omega) (by omega)
            rw [List.drop_zero] at this
            refine Eq.trans (show _ = _ from this) ?_
            cases s.f3.all (fewN 9) with
            | false => rfl
            | true => rfl
      · rw [if_pos (by omega), hj, decide_eq_false h3]; rfl
    · rw [if_pos (by omega), hj, decide_eq_false h40]; rfl
theorem fews_f : ∀ (n : Nat) (deep : Int), deep + (n : Int) = 7 → 0 ≤ deep → ∀ (l : List S38) (k : Nat), 300 * n + 10 ≤ k → palingslaw03_FewStmts.f k l deep = some (fewSs n l)
  | 0, deep, hd, h0, l, k, hk => by
    obtain ⟨k, rfl⟩ : ∃ j, k = j + 2 := ⟨k - 2, by omega⟩
    rw [palingslaw03_FewStmts.f, if_pos (by omega), palingslaw03_FewStmts.j0, if_pos rfl, fewSs]
  | n + 1, deep, hd, h0, l, k, hk => by
    obtain ⟨k, rfl⟩ : ∃ j, k = j + 2 := ⟨k - 2, by omega⟩
    rw [palingslaw03_FewStmts.f, if_neg (by omega), palingslaw03_FewStmts.j0, fewSs]
    by_cases h8 : l.length ≤ 8
    · rw [decide_eq_false (by omega), if_neg (by decide), decide_eq_true h8, Bool.true_and]
      have := fews_l0 deep h0 (by omega) (300 * n + 10) (fewSs n) (fun l k hk => fews_f n (deep + 1) (by omega) (by omega) l k hk) l h8 l.length 0 k (by omega) (by omega)
      exact this
    · rw [decide_eq_true (by omega), if_pos rfl, decide_eq_false h8]; rfl
/-- How long a few expression's text may be. -/
def tN : Nat → Nat
  | 0 => 0
  | n + 1 => 6 * tN n + 60
theorem sum_const {α : Type} (c : Nat) : ∀ l : List α, (l.map fun _ => c).sum = l.length * c
  | [] => by simp
  | x :: r => by rw [List.map_cons, List.sum_cons, sum_const c r, List.length_cons, Nat.succ_mul, Nat.add_comm]
theorem txt_few : ∀ (n : Nat) (e : S31), fewN n e = true → okE e → (txtE e).length ≤ tN n
  | 0, e, h, _ => by rw [fewN] at h; cases h
  | n + 1, ⟨k, p, num, name, op, kids⟩, h, hok => by
    rw [fewN] at h
    simp only [Bool.and_eq_true, decide_eq_true_eq] at h
    obtain ⟨h6, h40, hall⟩ := h
    rw [okE] at hok
    rw [txtE_node, tN]
    have ih : ∀ t ∈ kids.map txtE, t.length ≤ tN n := fun t ht => by
      obtain ⟨e, he, rfl⟩ := List.mem_map.1 ht
      exact txt_few n e (List.all_eq_true.1 hall e he) (okL_mem hok.2 he)
    have hl : (kids.map txtE).length ≤ 6 := by rw [List.length_map]; exact h6
    have h1 := itoa_len hok.1
    have h2 := sign_len op
    have h3 := join_len (kids.map txtE)
    have h4 : ((kids.map txtE).map fun t => t.length + 2).sum ≤ 6 * (tN n + 2) := by
      have a1 := sum_le (fun t : List UInt8 => t.length + 2) (fun _ => tN n + 2) (kids.map txtE) (fun t ht => by have := ih t ht; omega)
      rw [sum_const] at a1
      exact Nat.le_trans a1 (Nat.mul_le_mul_right _ hl)
    have h5 : name.data.toList.length ≤ 40 := by rw [Array.length_toList]; exact h40
    have ga : ∀ i, ((kids.map txtE).getD i []).length ≤ tN n := fun i => getD_len ih
    have g0 := ga 0
    have g1 := ga ((kids.map txtE).length - 1)
    unfold txtN
    split; · omega
    split; · split <;> simp <;> omega
    split; · omega
    split; · simp only [List.length_append, List.length_cons, List.length_nil]; omega
    split; · simp only [List.length_cons, List.length_nil]; omega
    repeat' split
    all_goals (simp only [List.length_append, List.length_cons, List.length_nil]; omega)
end Go.Proofs.YtaammdmaldodaaaDoor.B
