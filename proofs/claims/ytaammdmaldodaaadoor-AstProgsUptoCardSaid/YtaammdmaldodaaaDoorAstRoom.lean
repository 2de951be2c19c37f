/- What FewStmts lets in has room. -/
import Derived.Test.YtaammdmaldodaaaDoorAstFewS
namespace Go.Proofs.YtaammdmaldodaaaDoor.B
open Go.RowKit Go.Proofs.YtaammdmaldodaaaDoor.Mine Go.Proofs.YtaammdmaldodaaaDoor.Sep
set_option linter.unusedVariables false
set_option linter.unusedSimpArgs false
theorem fewOne_iff {f : List S38 → Bool} {s : S38} (h : fewOne f s = true) : s.f2.size ≤ 40 ∧ s.f3.length ≤ 3 ∧ f s.f4 = true ∧ f s.f5 = true ∧ ∀ e ∈ s.f3, fewN 9 e = true := by
  unfold fewOne at h
  simp only [Bool.and_eq_true, decide_eq_true_eq] at h
  exact ⟨h.1, h.2.1, h.2.2.1, h.2.2.2.1, List.all_eq_true.1 h.2.2.2.2⟩
theorem fewSs_iff {n : Nat} {l : List S38} (h : fewSs (n + 1) l = true) : l.length ≤ 8 ∧ ∀ s ∈ l, fewOne (fewSs n) s = true := by
  rw [fewSs, Bool.and_eq_true, decide_eq_true_eq] at h
  exact ⟨h.1, List.all_eq_true.1 h.2⟩
theorem st_len {f : List S38 → Bool} (d : Nat) (hd : d ≤ 20) (b : Nat) : ∀ (s : S38), fewOne f s = true → okS s → (txtSs (d + 1) s.f4).length ≤ b → (txtSs (d + 1) s.f5).length ≤ b → (txtS d s).length ≤ 2 * b + 2 * tN 9 + 300
  | ⟨k, p, name, es, th, el⟩, h, hok, ht, he => by
    obtain ⟨h40, h3, _, _, hf⟩ := fewOne_iff h
    dsimp only at h40 h3 hf ht he
    rw [okS] at hok
    have hT : ∀ i, ((es.map txtE).getD i [63]).length ≤ tN 9 := fun i => by
      rw [List.getD_eq_getElem?_getD, List.getElem?_map]
      cases hx : es[i]? with
      | none => simp only [Option.map_none, Option.getD_none, List.length_cons, List.length_nil]; decide
      | some e => exact txt_few 9 e (hf e (List.mem_of_getElem? hx)) (okL_mem hok.1 (List.mem_of_getElem? hx))
    have ha := hT 0
    have hb := hT 1
    have htb : (tabN d).length ≤ 20 := by unfold tabN; rw [List.length_replicate]; exact hd
    have hn : name.data.toList.length ≤ 40 := by rw [Array.length_toList]; exact h40
    rw [txtS]
    generalize (es.map txtE).getD 0 [63] = a at *
    generalize (es.map txtE).getD 1 [63] = b' at *
    generalize txtSs (d + 1) th = tt at *
    generalize txtSs (d + 1) el = te at *
    generalize tabN d = tb at *
    generalize name.data.toList = nm at *
    generalize tN 9 = T at *
    unfold stN
    repeat' split
    all_goals (simp only [List.length_append, List.length_cons, List.length_nil]; omega)
/-- A bound for a statement's text, so many layers. -/
def sN : Nat → Nat
  | 0 => 0
  | n + 1 => 16 * sN n + 2 * tN 9 + 300
theorem ss_len {b : Nat} (d : Nat) : ∀ l : List S38, (∀ s ∈ l, (txtS d s).length ≤ b) → (txtSs d l).length ≤ l.length * b
  | [], _ => by rw [txtSs]; simp
  | s :: r, h => by
    rw [txtSs, List.length_append, List.length_cons, Nat.succ_mul]
    have h1 := h s (List.mem_cons_self ..)
    have h2 := ss_len d r (fun x hx => h x (List.mem_cons_of_mem _ hx))
    omega
/-- A few statements' text. -/
theorem few_text : ∀ (n d : Nat), d + n ≤ 20 → ∀ l, fewSs (n + 1) l = true → okSs l → (∀ s ∈ l, (txtS d s).length ≤ sN n) ∧ (txtSs d l).length ≤ 8 * sN n
  | 0, d, hd, l, h, hok => by
    obtain ⟨h8, hall⟩ := fewSs_iff h
    have : ∀ s ∈ l, (txtS d s).length ≤ sN 0 := fun s hs => by
      have := (fewOne_iff (hall s hs)).2.2.1
      rw [fewSs] at this
      cases this
    exact ⟨this, Nat.le_trans (ss_len d l this) (Nat.mul_le_mul_right _ h8)⟩
  | n + 1, d, hd, l, h, hok => by
    obtain ⟨h8, hall⟩ := fewSs_iff h
    have : ∀ s ∈ l, (txtS d s).length ≤ sN (n + 1) := fun s hs => by
      obtain ⟨_, _, h4, h5, _⟩ := fewOne_iff (hall s hs)
      have hos := okSs_mem hok hs
      have hparts : okSs s.f4 ∧ okSs s.f5 := by cases s; rw [okS] at hos; exact hos.2
      have t4 := (few_text n (d + 1) (by omega) s.f4 h4 hparts.1).2
      have t5 := (few_text n (d + 1) (by omega) s.f5 h5 hparts.2).2
      have := st_len d (by omega) (8 * sN n) s (hall s hs) hos t4 t5
      rw [sN]
      omega
    exact ⟨this, Nat.le_trans (ss_len d l this) (Nat.mul_le_mul_right _ h8)⟩
theorem roomSs_all (d : Nat) : ∀ l : List S38, (∀ s ∈ l, roomS d s) → roomSs d l
  | [], _ => by rw [roomSs]; trivial
  | s :: r, h => by rw [roomSs]; exact ⟨h s (List.mem_cons_self ..), roomSs_all d r (fun x hx => h x (List.mem_cons_of_mem _ hx))⟩
theorem sN_le {n : Nat} (h : n ≤ 5) : 8 * sN n ≤ BX := by
  have : ∀ i : Fin 6, 8 * sN i.val ≤ BX := by decide +kernel
  exact this ⟨n, by omega⟩
/-- A few statements' parts have room. -/
theorem few_room : ∀ (n d : Nat), n ≤ 6 → d + n ≤ 20 → ∀ l, fewSs (n + 1) l = true → okSs l → roomSs d l
  | 0, d, hn, hd, l, h, hok => by
    obtain ⟨h8, hall⟩ := fewSs_iff h
    refine roomSs_all d l fun s hs => ?_
    have := (fewOne_iff (hall s hs)).2.2.1
    rw [fewSs] at this
    cases this
  | n + 1, d, hn, hd, l, h, hok => by
    obtain ⟨h8, hall⟩ := fewSs_iff h
    refine roomSs_all d l fun s hs => ?_
    obtain ⟨h40, _, h4, h5, hf⟩ := fewOne_iff (hall s hs)
    have hos := okSs_mem hok hs
    have hparts : okSs s.f4 ∧ okSs s.f5 := by cases s; rw [okS] at hos; exact hos.2
    have t4 := (few_text n (d + 1) (by omega) s.f4 h4 hparts.1).2
    have t5 := (few_text n (d + 1) (by omega) s.f5 h5 hparts.2).2
    have r4 := few_room n (d + 1) (by omega) (by omega) s.f4 h4 hparts.1
    have r5 := few_room n (d + 1) (by omega) (by omega) s.f5 h5 hparts.2
    have hb := sN_le (n := n) (by omega)
    have hm : 64 ≤ MX := by decide
    obtain ⟨k, p, name, es, th, el⟩ := s
    rw [roomS]
    exact ⟨by omega, by have : name.data.toList.length ≤ 40 := by { rw [Array.length_toList]; exact h40 }; omega, fun e he => few_mx (hf e he), ⟨Nat.le_trans t4 hb, r4⟩, ⟨Nat.le_trans t5 hb, r5⟩⟩
/-- A bound for a statement's lines. -/
def cN : Nat → Nat
  | 0 => 0
  | n + 1 => 16 * cN n + 3
theorem cs_len {b : Nat} : ∀ l : List S38, (∀ s ∈ l, countS s ≤ b) → countSs l ≤ l.length * b
  | [], _ => by rw [countSs]; simp
  | s :: r, h => by
    rw [countSs, List.length_cons, Nat.succ_mul]
    have h1 := h s (List.mem_cons_self ..)
    have h2 := cs_len r (fun x hx => h x (List.mem_cons_of_mem _ hx))
    omega
theorem few_count : ∀ (n : Nat) (l : List S38), fewSs (n + 1) l = true → (∀ s ∈ l, countS s ≤ cN n) ∧ countSs l ≤ 8 * cN n
  | 0, l, h => by
    obtain ⟨h8, hall⟩ := fewSs_iff h
    have : ∀ s ∈ l, countS s ≤ cN 0 := fun s hs => by
      have := (fewOne_iff (hall s hs)).2.2.1
      rw [fewSs] at this
      cases this
    exact ⟨this, Nat.le_trans (cs_len l this) (Nat.mul_le_mul_right _ h8)⟩
  | n + 1, l, h => by
    obtain ⟨h8, hall⟩ := fewSs_iff h
    have : ∀ s ∈ l, countS s ≤ cN (n + 1) := fun s hs => by
      obtain ⟨_, _, h4, h5, _⟩ := fewOne_iff (hall s hs)
      have t4 := (few_count n s.f4 h4).2
      have t5 := (few_count n s.f5 h5).2
      obtain ⟨k, p, name, es, th, el⟩ := s
      dsimp only at t4 t5
      rw [countS, cN]
      repeat' split
      all_goals omega
    exact ⟨this, Nat.le_trans (cs_len l this) (Nat.mul_le_mul_right _ h8)⟩
theorem cN_le : cN 6 ≤ MX := by decide +kernel
end Go.Proofs.YtaammdmaldodaaaDoor.B
