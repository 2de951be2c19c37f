/- AstSame, all ways together. -/
import Derived.Test.YtaammdmaldodaaaDoorAstXkind
import Derived.Test.YtaammdmaldodaaaDoorAstXnum
import Derived.Test.YtaammdmaldodaaaDoorAstXname
import Derived.Test.YtaammdmaldodaaaDoorAstXop
import Derived.Test.YtaammdmaldodaaaDoorAstXkids
import Derived.Test.YtaammdmaldodaaaDoorAstXlast
import Derived.Test.YtaammdmaldodaaaDoorAstXnone
import Derived.Test.YtaammdmaldodaaaDoorAstSignsW
namespace Go.Proofs.YtaammdmaldodaaaDoor.B
open Go.RowKit Go.Proofs.YtaammdmaldodaaaDoor.Mine Go.Proofs.YtaammdmaldodaaaDoor.Sep
set_option linter.unusedVariables false
set_option linter.unusedSimpArgs false
theorem beq_wrap (x : Int) : (x == wrap64 (x + 1)) = false := beq_eq_false_iff_ne.2 (fun h => wrap_ne x h.symm)
theorem sameE_turn (q : S31) (v : Int) (h : v ≠ q.f2) : sameE q (flipE q v) = false := by
  rw [sameE_eq]
  have h1 : (q.f2 == v) = false := beq_eq_false_iff_ne.2 (fun e => h e.symm)
  simp only [flipE, h1, Bool.false_and, Bool.and_false]
theorem sameE_flip (n : Int) (q : S31) (v : Int) (h : v ≠ q.f2) : sameE q (flipE (shf n q) v) = false := by
  rw [sameE_eq]
  have h1 : (q.f2 == v) = false := beq_eq_false_iff_ne.2 (fun e => h e.symm)
  simp only [flipE, h1, Bool.false_and, Bool.and_false]
theorem allB_turn {α : Type} (f : α → α → Bool) (l m : List α) (i : Nat) (hi : i < l.length) (hm : i < m.length) (hf : f l[i] m[i] = false) : allB f l m = false := by
  induction l generalizing m i with
  | nil => simp at hi
  | cons a l ih =>
    cases m with
    | nil => simp at hm
    | cons b m =>
      rw [allB]
      cases i with
      | zero => simp only [List.getElem_cons_zero] at hf; rw [hf, Bool.false_and]
      | succ i => rw [ih m i (by simpa using hi) (by simpa using hm) (by simpa using hf), Bool.and_false]
theorem turn_ne (n : Int) (l : List S31) (h : 0 < l.length) : allB sameE l (turnL (l.map (shf n))) = false := by
  refine allB_turn sameE l _ (l.length - 1) (by omega) (by simp only [turnL, List.length_set, List.length_map]; omega) ?_
  have e1 : lastE (l.map (shf n)) = shf n l[l.length - 1] := by
    unfold lastE
    rw [List.length_map, List.getD_eq_getElem?_getD, List.getElem?_map, List.getElem?_eq_getElem (by omega : l.length - 1 < l.length)]
    rfl
  have e2 : (turnL (l.map (shf n)))[l.length - 1]'(by simp only [turnL, List.length_set, List.length_map]; omega) = flipE (shf n l[l.length - 1]) (Go.bits .xor .i64 (shf n l[l.length - 1]).f2 1) := by
    simp only [turnL, e1, List.length_map, List.getElem_set_self]
  rw [e2]
  refine sameE_flip n _ _ ?_
  rw [show (shf n l[l.length - 1]).f2 = l[l.length - 1].f2 from by rw [shf_eq]]
  exact xor_ne _
theorem asame_walk {H : Type} {enc : TypeId × Value → H} {d : DataW H} {p : List MemPlace} (v0 : Value) (which n : Int) (W : World) (h0 : Arg enc Tryd.prog W 31 v0 d p) (_ : (Lit.int .i64 which).wf = true) (_ : (Lit.int .i64 n).wf = true) (hL : laidMetH Tryd.prog astLaid W) :
    Calls Tryd.prog 4 #[v0, .int .i64 which, .int .i64 n] W fun e W' => e = .returned (.bool true) ∧ Below W.heap.size W W' := by
  have hG := of_laid hL
  obtain ⟨e, A, c, rfl, hcap, hC, hok⟩ := open_expr h0
  cases hf : fewN 9 e with
  | false => exact asame_few e A c which n W hG hcap hC hf
  | true =>
    obtain ⟨B, hB⟩ : ∃ B, Go.bits .and .i64 which 7 = B := ⟨_, rfl⟩
    by_cases b0 : B = 0
    · refine asame_kind e A c which n W hG hcap hC hf B hB (by simpa using b0) _ rfl ?_
      intro nm kd hnm hkd
      rw [sameE_eq]
      simp only [beq_wrap, Bool.false_and]
    by_cases b1 : B = 1
    · refine asame_num e A c which n W hG hcap hC hf B hB (by simpa using b0) (by simpa using b1) _ rfl ?_
      intro nm kd hnm hkd
      rw [sameE_eq]
      simp only [beq_wrap, Bool.false_and, Bool.and_false]
    by_cases b2 : B = 2
    · refine asame_name e A c which n W hG hcap hC hf B hB (by simpa using b0) (by simpa using b1) (by simpa using b2) ?_
      intro nm kd hnm hkd
      rw [sameE_eq]
      have h1 : ((bs nm).toList == (bs (nm ++ [120])).toList) = false := by
        rw [bs_toList, bs_toList, beq_eq_false_iff_ne]
        intro h
        have := congrArg List.length h
        simp at this
      simp only [h1, Bool.false_and, Bool.and_false]
    by_cases b3 : B = 3
    · refine asame_op e A c which n W hG hcap hC hf B hB (by simpa using b0) (by simpa using b1) (by simpa using b2) (by simpa using b3) _ rfl ?_
      intro nm kd hnm hkd
      rw [sameE_eq]
      simp only [beq_wrap, Bool.false_and, Bool.and_false]
    by_cases b4 : B = 4
    · refine asame_kids e A c which n W hG hcap hC hf B hB (by simpa using b0) (by simpa using b1) (by simpa using b2) (by simpa using b3) (by simpa using b4) ?_
      intro nm kd hnm hkd kd1 hkd1
      rw [sameE_eq]
      have h1 : allB sameE e.f5 kd1 = false := allB_len sameE _ _ (by rw [hkd1, hkd]; simp)
      simp only [h1, Bool.and_false]
    by_cases hk : e.f5.length = 0
    · exact asame_none e A c which n W hG hcap hC hf B hB (by simpa using b0) (by simpa using b1) (by simpa using b2) (by simpa using b3) (by simpa using b4) ⟨hk⟩
    · refine asame_last e A c which n W hG hcap hC hf B hB (by simpa using b0) (by simpa using b1) (by simpa using b2) (by simpa using b3) (by simpa using b4) (by omega) ?_
      intro nm kd hnm hkd kd2 hkd2
      rw [sameE_eq]
      have h1 : allB sameE e.f5 kd2 = false := by rw [hkd2, hkd]; exact turn_ne n _ (by omega)
      simp only [h1, Bool.and_false]
end Go.Proofs.YtaammdmaldodaaaDoor.B
