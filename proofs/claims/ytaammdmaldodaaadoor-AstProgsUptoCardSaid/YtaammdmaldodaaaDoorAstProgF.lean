/- FewProg as the printed function says, in plain Lean; what texts it lets in, with so few statements. -/
import Derived.Test.YtaammdmaldodaaaDoorAstBulk
import Derived.Test.YtaammdmaldodaaaDoorAstRoom
import Derived.Test.YtaammdmaldodaaaDoorBx4
namespace Go.Proofs.YtaammdmaldodaaaDoor.B
open Go.RowKit Go.Proofs.YtaammdmaldodaaaDoor.Mine Go.Proofs.YtaammdmaldodaaaDoor.Sep Go.Proofs.YtaammdmaldodaaaDoorW.PrintWords Go.Proofs.YtaammdmaldodaaaDoorW.PrintLast Go.Proofs.YtaammdmaldodaaaDoorW.PrintMore
set_option linter.unusedVariables false
set_option linter.unusedSimpArgs false
def fewF (f : S41) : Bool := decide (f.f0.size ≤ 40) && (decide (f.f1.length ≤ 10) && (fewSs 7 f.f2 && f.f1.all fun n => decide (n.size ≤ 40)))
def fewP (gs : List S54) (fs : List S41) : Bool := decide (gs.length ≤ 10) && (decide (fs.length ≤ 6) && ((gs.all fun g => decide (g.f0.size ≤ 40)) && fs.all fewF))
theorem fewp_l2 (fs : List S41) (x33 x34 : Int) (ps : List ByteArray) (hp : ps.length ≤ 10) (R : Option Bool) (kr : Nat) (hr : ∀ k, kr ≤ k → palingslaw03_FewProg.l1 k fs x33 (wrap64 (x34 + 1)) = R) :
    ∀ (d j k : Nat), j + d = ps.length → d + 1 + kr ≤ k → palingslaw03_FewProg.l2 k fs x33 x34 ps (ps.length : Int) (j : Int) = if (ps.drop j).all (fun n => decide (n.size ≤ 40)) = true then R else some false := by
  intro d
  induction d with
  | zero =>
    intro j k hj hk
    obtain ⟨k, rfl⟩ : ∃ q, k = q + 1 := ⟨k - 1, by omega⟩
    rw [palingslaw03_FewProg.l2, if_neg (by omega), List.drop_eq_nil_of_le (by omega), hr k (by omega)]
    rfl
  | succ d ihd =>
    intro j k hj hk
    obtain ⟨k, rfl⟩ : ∃ q, k = q + 1 := ⟨k - 1, by omega⟩
    have hjl : j < ps.length := by omega
    have hrd : rdOf ByteArray.empty ps (j : Int) = ps[j] := by unfold rdOf; rw [Int.toNat_natCast, List.getD_eq_getElem?_getD, List.getElem?_eq_getElem hjl]; rfl
    rw [palingslaw03_FewProg.l2, if_pos (by omega), if_pos (by omega), if_pos (by omega), hrd, w64 ((j : Int) + 1) (by omega) (by omega), List.drop_eq_getElem_cons hjl, List.all_cons]
    by_cases h40 : ps[j].size ≤ 40
    · rw [if_neg (by omega), decide_eq_true h40, Bool.true_and]
      exact_mod_cast ihd (j + 1) k (by omega) (by omega)
    · rw [if_pos (by omega), decide_eq_false h40]; rfl
theorem fewp_l1 (fs : List S41) (hf : fs.length ≤ 6) :
    ∀ (d i k : Nat), i + d = fs.length → 2200 + 20 * d ≤ k → palingslaw03_FewProg.l1 k fs (fs.length : Int) (i : Int) = some ((fs.drop i).all fewF) := by
  intro d
  induction d with
  | zero =>
    intro i k hi hk
    obtain ⟨k, rfl⟩ : ∃ q, k = q + 1 := ⟨k - 1, by omega⟩
    rw [palingslaw03_FewProg.l1, if_neg (by omega), List.drop_eq_nil_of_le (by omega)]
    rfl
  | succ d ihd =>
    intro i k hi hk
    obtain ⟨k, rfl⟩ : ∃ q, k = q + 2 := ⟨k - 2, by omega⟩
    have hil : i < fs.length := by omega
    have hj : ∀ x0 x1 x2 x3 x4, palingslaw03_FewProg.j3 (k + 1) fs (fs.length : Int) (i : Int) true x0 x1 x2 x3 x4 = some false := fun _ _ _ _ _ => by rw [palingslaw03_FewProg.j3, if_pos rfl]
    rw [palingslaw03_FewProg.l1, if_pos (by omega), if_pos (by omega), if_pos (by omega), rdF hil, List.drop_eq_getElem_cons hil, List.all_cons]
    generalize fs[i] = f
    unfold fewF
    by_cases h40 : f.f0.size ≤ 40
    · rw [if_neg (by omega), decide_eq_true h40, Bool.true_and]
      by_cases h10 : f.f1.length ≤ 10
      · rw [if_neg (by omega), decide_eq_true h10, Bool.true_and, fews_f 7 0 (by omega) (by omega) f.f2 (k + 1) (by omega), Option.bind_some]
        cases fewSs 7 f.f2 with
        | false => exact hj _ _ _ _ _
        | true =>
          rw [palingslaw03_FewProg.j3, if_neg (by decide)]
          have := fewp_l2 fs (fs.length : Int) (i : Int) f.f1 h10 (some ((fs.drop (i + 1)).all fewF)) (2200 + 20 * d) (fun q hq => by rw [w64 ((i : Int) + 1) (by omega) (by omega)]; exact_mod_cast ihd (i + 1) q (by omega) hq) f.f1.length 0 k (by omega) (by omega)
          rw [List.drop_zero] at this
          refine Eq.trans (show _ = _ from this) ?_
          cases f.f1.all (fun n => decide (n.size ≤ 40)) with
          | false => rfl
          | true => rfl
      · rw [if_pos (by omega), hj, decide_eq_false h10]; rfl
    · rw [if_pos (by omega), hj, decide_eq_false h40]; rfl
theorem fewp_l0 (gs : List S54) (fs : List S41) (hg : gs.length ≤ 10) (hf : fs.length ≤ 6) (y : List S54) :
    ∀ (d i k : Nat), i + d = gs.length → 2400 + d ≤ k → palingslaw03_FewProg.l0 k gs (gs.length : Int) (i : Int) y fs = some (((gs.drop i).all fun g => decide (g.f0.size ≤ 40)) && fs.all fewF) := by
  intro d
  induction d with
  | zero =>
    intro i k hi hk
    obtain ⟨k, rfl⟩ : ∃ q, k = q + 1 := ⟨k - 1, by omega⟩
    rw [palingslaw03_FewProg.l0, if_neg (by omega), List.drop_eq_nil_of_le (by omega)]
    have := fewp_l1 fs hf fs.length 0 k (by omega) (by omega)
    rw [List.drop_zero] at this
    exact_mod_cast this
  | succ d ihd =>
    intro i k hi hk
    obtain ⟨k, rfl⟩ : ∃ q, k = q + 1 := ⟨k - 1, by omega⟩
    have hil : i < gs.length := by omega
    rw [palingslaw03_FewProg.l0, if_pos (by omega), if_pos (by omega), if_pos (by omega), rdG hil, w64 ((i : Int) + 1) (by omega) (by omega), List.drop_eq_getElem_cons hil, List.all_cons]
    by_cases h40 : gs[i].f0.size ≤ 40
    · rw [if_neg (by omega), decide_eq_true h40, Bool.true_and]
      exact_mod_cast ihd (i + 1) k (by omega) (by omega)
    · rw [if_pos (by omega), decide_eq_false h40]; rfl
theorem fewp_f (gs : List S54) (fs : List S41) (k : Nat) (hk : 2500 ≤ k) : palingslaw03_FewProg.f k gs fs = some (fewP gs fs) := by
  obtain ⟨k, rfl⟩ : ∃ q, k = q + 1 := ⟨k - 1, by omega⟩
  have hk' : 2400 + gs.length ≤ k ∨ ¬ gs.length ≤ 10 := by omega
  clear hk
  rw [palingslaw03_FewProg.f, fewP]
  by_cases hg : gs.length ≤ 10
  · rw [if_neg (by omega), decide_eq_true hg, Bool.true_and, palingslaw03_FewProg.j0]
    by_cases hf : fs.length ≤ 6
    · rw [decide_eq_false (by omega), if_neg (by decide), decide_eq_true hf, Bool.true_and]
      have := fewp_l0 gs fs hg hf gs gs.length 0 k (Nat.zero_add _) (hk'.resolve_right (fun h => h hg))
      rw [List.drop_zero] at this
      exact_mod_cast this
    · rw [decide_eq_true (show (fs.length : Int) > 6 by omega), if_pos rfl, decide_eq_false hf]; rfl
  · rw [if_pos (by omega), palingslaw03_FewProg.j0, if_pos rfl, decide_eq_false hg]; rfl
/-- What a statement of few parts costs. -/
def KK : Nat := 2 * tN 9 + 300
theorem st_len2 {f : List S38 → Bool} (d : Nat) (hd : d ≤ 20) : ∀ (s : S38), fewOne f s = true → okS s → (txtS d s).length ≤ (txtSs (d + 1) s.f4).length + (txtSs (d + 1) s.f5).length + (2 * tN 9 + 300)
  | ⟨k, p, name, es, th, el⟩, h, hok => by
    obtain ⟨h40, h3, _, _, hf⟩ := fewOne_iff h
    dsimp only at h40 h3 hf ⊢
    rw [okS] at hok
    have hT : ∀ i, ((es.map txtE).getD i [63]).length ≤ tN 9 := fun i => by
      rw [List.getD_eq_getElem?_getD, List.getElem?_map]
      cases hx : es[i]? with
      | none => simp only [Option.map_none, Option.getD_none, List.length_cons, List.length_nil]; decide
      | some e => exact txt_few 9 e (hf e (List.mem_of_getElem? hx)) (okL_mem hok.1 (List.mem_of_getElem? hx))
    have ha := hT 0
    have hb := hT 1
    have htb : (tabN d).length ≤ 20 := by unfold tabN; rw [List.length_replicate]; exact hd
    have hn : name.data.toList.length ≤ 40 := by rw [Array.length_toList]; exact h40
    rw [txtS]
    generalize (es.map txtE).getD 0 [63] = a at *
    generalize (es.map txtE).getD 1 [63] = b' at *
    generalize txtSs (d + 1) th = tt at *
    generalize txtSs (d + 1) el = te at *
    generalize tabN d = tb at *
    generalize name.data.toList = nm at *
    generalize tN 9 = T at *
    unfold stN
    repeat' split
    all_goals (simp only [List.length_append, List.length_cons, List.length_nil]; omega)
theorem ss_nodes (d : Nat) : ∀ l : List S38, (∀ s ∈ l, (txtS d s).length ≤ nS s * KK) → (txtSs d l).length ≤ nSs l * KK
  | [], _ => by rw [txtSs, nSs]; simp
  | s :: r, h => by
    rw [txtSs, nSs, List.length_append, Nat.add_mul]
    have h1 := h s (List.mem_cons_self ..)
    have h2 := ss_nodes d r (fun x hx => h x (List.mem_cons_of_mem _ hx))
    omega
theorem few_nodes : ∀ (n d : Nat), d + n ≤ 20 → ∀ l, fewSs (n + 1) l = true → okSs l → (txtSs d l).length ≤ nSs l * KK
  | 0, d, hd, l, h, hok => by
    obtain ⟨h8, hall⟩ := fewSs_iff h
    refine ss_nodes d l fun s hs => ?_
    have := (fewOne_iff (hall s hs)).2.2.1
    rw [fewSs] at this
    cases this
  | n + 1, d, hd, l, h, hok => by
    obtain ⟨h8, hall⟩ := fewSs_iff h
    refine ss_nodes d l fun s hs => ?_
    obtain ⟨_, _, h4, h5, _⟩ := fewOne_iff (hall s hs)
    have hos := okSs_mem hok hs
    have hparts : okSs s.f4 ∧ okSs s.f5 := by cases s; rw [okS] at hos; exact hos.2
    have t4 := few_nodes n (d + 1) (by omega) s.f4 h4 hparts.1
    have t5 := few_nodes n (d + 1) (by omega) s.f5 h5 hparts.2
    have h1 : (txtS d s).length ≤ (txtSs (d + 1) s.f4).length + (txtSs (d + 1) s.f5).length + KK := st_len2 d (by omega) s (hall s hs) hos
    have hn : nS s = 1 + nSs s.f4 + nSs s.f5 := by cases s; rw [nS]
    rw [hn, Nat.add_mul, Nat.add_mul, Nat.one_mul]
    omega
theorem sum_le' {α : Type} (f g : α → Nat) : ∀ l : List α, (∀ x ∈ l, f x ≤ g x) → (l.map f).sum ≤ (l.map g).sum
  | [], _ => by simp
  | x :: r, h => by
    rw [List.map_cons, List.map_cons, List.sum_cons, List.sum_cons]
    have h1 := h x (List.mem_cons_self ..)
    have h2 := sum_le' f g r (fun y hy => h y (List.mem_cons_of_mem _ hy))
    omega
theorem len_flat {α : Type} (f : α → List UInt8) : ∀ l : List α, ((l.map f).flatten).length = (l.map fun x => (f x).length).sum
  | [] => by simp
  | x :: r => by rw [List.map_cons, List.flatten_cons, List.length_append, len_flat f r, List.map_cons, List.sum_cons]
theorem sum_lin {α : Type} (c k : Nat) (f : α → Nat) : ∀ l : List α, (l.map fun x => f x * k + c).sum = (l.map f).sum * k + l.length * c
  | [] => by simp
  | x :: r => by
    rw [List.map_cons, List.sum_cons, sum_lin c k f r, List.map_cons, List.sum_cons, List.length_cons, Nat.add_mul, Nat.add_mul]
    omega
theorem sum7 {α : Type} (f : α → Nat) : ∀ l : List α, (l.map fun x => 7 * f x).sum = 7 * (l.map f).sum
  | [] => by simp
  | x :: r => by rw [List.map_cons, List.sum_cons, sum7 f r, List.map_cons, List.sum_cons, Nat.mul_add]
theorem hold_len (h : Int) : (holdT h).length ≤ 7 := by unfold holdT; repeat' split
                                                        all_goals simp
theorem gT_len (g : S54) (h : g.f0.size ≤ 40) (ho : okG g) : (gT g).length ≤ 100 := by
  have h1 := hold_len g.f1
  have h2 := itoa_len ho.2
  have h3 : g.f0.data.toList.length ≤ 40 := by rw [Array.length_toList]; exact h
  unfold gT
  split
  · simp only [List.length_append, List.length_cons, List.length_nil]; omega
  · simp only [List.length_append, List.length_cons, List.length_nil]; omega
theorem fT_len (f : S41) (h : fewF f = true) (ho : okF f) : (fT f).length ≤ nSs f.f2 * KK + 600 := by
  unfold fewF at h
  simp only [Bool.and_eq_true, decide_eq_true_eq] at h
  obtain ⟨h40, h10, h7, hall⟩ := h
  have h1 := few_nodes 6 1 (by omega) f.f2 h7 ho
  have h2 := join_len (f.f1.map (·.data.toList))
  have h3 : ((f.f1.map (·.data.toList)).map fun t => t.length + 2).sum ≤ ((f.f1.map (·.data.toList)).map fun _ => 42).sum := sum_le' _ _ _ (fun t ht => by
    obtain ⟨n, hn, rfl⟩ := List.mem_map.1 ht
    have := List.all_eq_true.1 hall n hn
    rw [decide_eq_true_eq] at this
    rw [Array.length_toList]
    have e : n.data.size = n.size := rfl
    omega)
  rw [sum_const, List.length_map] at h3
  have h4 : f.f0.data.toList.length ≤ 40 := by rw [Array.length_toList]; exact h40
  unfold fT
  simp only [List.length_append, List.length_cons, List.length_nil]
  have : f.f1.length * 42 ≤ 10 * 42 := Nat.mul_le_mul_right _ h10
  omega
theorem kk_le : 149797 * KK + 10000 ≤ BX := by decide +kernel
/-- A few program of so few statements may be made text. -/
theorem few_prok (gs : List S54) (fs : List S41) (h : fewP gs fs = true) (hg : ∀ g ∈ gs, okG g) (hf : ∀ f ∈ fs, okF f) (hb : (fs.map fun f => 7 * nSs f.f2).sum ≤ 1048576) : PrOk gs fs := by
  unfold fewP at h
  simp only [Bool.and_eq_true, decide_eq_true_eq] at h
  obtain ⟨h10, h6, hga, hfa⟩ := h
  refine ⟨?_, hg, fun f hm => ?_⟩
  · unfold progT gsT fsT
    rw [List.length_append, len_flat, len_flat]
    have a1 := sum_le' (fun g => (gT g).length) (fun _ => 100) gs (fun g hm => gT_len g (by have := List.all_eq_true.1 hga g hm; simpa using this) (hg g hm))
    have a2 := sum_le' (fun f => (fT f).length) (fun f => nSs f.f2 * KK + 600) fs (fun f hm => fT_len f (List.all_eq_true.1 hfa f hm) (hf f hm))
    rw [sum_const] at a1
    rw [sum_lin 600 KK (fun f : S41 => nSs f.f2)] at a2
    rw [sum7] at hb
    have hk : (fs.map fun f => nSs f.f2).sum ≤ 149797 := by omega
    have h3 : (fs.map fun f => nSs f.f2).sum * KK ≤ 149797 * KK := Nat.mul_le_mul_right _ hk
    have h4 := kk_le
    have h5 : gs.length * 100 ≤ 10 * 100 := Nat.mul_le_mul_right _ h10
    have h7 : fs.length * 600 ≤ 6 * 600 := Nat.mul_le_mul_right _ h6
    omega
  · have hfm := List.all_eq_true.1 hfa f hm
    unfold fewF at hfm
    simp only [Bool.and_eq_true, decide_eq_true_eq] at hfm
    exact ⟨hf f hm, few_room 6 1 (Nat.le_refl _) (by omega) f.f2 hfm.2.2.1 (hf f hm), hfm.2.1⟩
end Go.Proofs.YtaammdmaldodaaaDoor.B
