/- plain: what its walk needs, in plain Lean. -/
import Derived.Test.YtaammdmaldodaaaDoorAstRoom
namespace Go.Proofs.YtaammdmaldodaaaDoor.B
open Go.RowKit Go.Proofs.YtaammdmaldodaaaDoor.Mine Go.Proofs.YtaammdmaldodaaaDoor.Sep
set_option linter.unusedVariables false
set_option linter.unusedSimpArgs false
theorem stN_pos (k : Int) (tb nm a b tt te : List UInt8) (x : Bool) : 0 < (stN k tb nm a b tt te x).length := by
  unfold stN
  repeat' split
  all_goals (simp only [List.length_append, List.length_cons, List.length_nil]; omega)
theorem txtS_pos (d : Nat) : ∀ s : S38, 0 < (txtS d s).length
  | ⟨_, _, _, _, _, _⟩ => by rw [txtS]; exact stN_pos ..
mutual
/-- plain may go through it: room at no depth, for it and all within it. -/
def plR : S38 → Prop
  | ⟨k, p, nm, es, th, el⟩ => roomS 0 ⟨k, p, nm, es, th, el⟩ ∧ (th.length ≤ 8 ∧ plRs th) ∧ (el.length ≤ 8 ∧ plRs el)
def plRs : List S38 → Prop
  | [] => True
  | s :: r => plR s ∧ plRs r
end
theorem plRs_all : ∀ l : List S38, (∀ s ∈ l, plR s) → plRs l
  | [], _ => by rw [plRs]; trivial
  | s :: r, h => by rw [plRs]; exact ⟨h s (List.mem_cons_self ..), plRs_all r (fun x hx => h x (List.mem_cons_of_mem _ hx))⟩
theorem plRs_mem : ∀ {l : List S38} {s}, plRs l → s ∈ l → plR s
  | x :: r, e, h, hm => by
    rw [plRs] at h
    rcases List.mem_cons.1 hm with rfl | hm
    · exact h.1
    · exact plRs_mem h.2 hm
theorem plainSs_all : ∀ l : List S38, plainSs l = l.all plainS
  | [] => by rw [plainSs]; rfl
  | s :: r => by rw [plainSs, plainSs_all r]; rfl
theorem few_plR : ∀ (n : Nat), n ≤ 6 → ∀ l, fewSs (n + 1) l = true → okSs l → plRs l
  | 0, hn, l, h, hok => by
    obtain ⟨h8, hall⟩ := fewSs_iff h
    refine plRs_all l fun s hs => ?_
    have := (fewOne_iff (hall s hs)).2.2.1
    rw [fewSs] at this
    cases this
  | n + 1, hn, l, h, hok => by
    obtain ⟨h8, hall⟩ := fewSs_iff h
    refine plRs_all l fun s hs => ?_
    have hroom := roomSs_mem (few_room (n + 1) 0 hn (by omega) l h hok) hs
    obtain ⟨_, _, h4, h5, _⟩ := fewOne_iff (hall s hs)
    have hos := okSs_mem hok hs
    have hparts : okSs s.f4 ∧ okSs s.f5 := by cases s; rw [okS] at hos; exact hos.2
    have r4 := few_plR n (by omega) s.f4 h4 hparts.1
    have r5 := few_plR n (by omega) s.f5 h5 hparts.2
    have l4 := (fewSs_len h4)
    have l5 := (fewSs_len h5)
    obtain ⟨k, p, name, es, th, el⟩ := s
    rw [plR]
    exact ⟨hroom, ⟨l4, r4⟩, ⟨l5, r5⟩⟩
where
  fewSs_len {n : Nat} {l : List S38} (h : fewSs n l = true) : l.length ≤ 8 := by
    cases n with
    | zero => rw [fewSs] at h; cases h
    | succ n => exact (fewSs_iff h).1
end Go.Proofs.YtaammdmaldodaaaDoor.B
