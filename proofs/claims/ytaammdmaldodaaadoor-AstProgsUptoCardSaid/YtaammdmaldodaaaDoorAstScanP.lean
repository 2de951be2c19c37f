/- The scan of a statement's text: as many lines as it should have, and its tabs; in plain Lean. -/
import Derived.Test.YtaammdmaldodaaaDoorAstStmtP
namespace Go.Proofs.YtaammdmaldodaaaDoor.B
open Go.RowKit Go.Proofs.YtaammdmaldodaaaDoor.Mine Go.Proofs.YtaammdmaldodaaaDoor.Sep
set_option linter.unusedVariables false
set_option linter.unusedSimpArgs false
/-- No tab, no line's end. -/
def Cl (l : List UInt8) : Prop := ∀ c ∈ l, c ≠ 9 ∧ c ≠ 10
theorem Cl.app {a b : List UInt8} (ha : Cl a) (hb : Cl b) : Cl (a ++ b) := fun c hc => (List.mem_append.1 hc).elim (ha c) (hb c)
theorem cl_nil : Cl [] := fun c hc => by cases hc
theorem cl_flat {ls : List (List UInt8)} (h : ∀ l ∈ ls, Cl l) : Cl ls.flatten := fun c hc => by
  obtain ⟨l, hl, hcl⟩ := List.mem_flatten.1 hc
  exact h l hl c hcl
theorem cl_dec (u : Nat) : Cl (Lib.decDigits u) := by
  induction u using Nat.strongRecOn with
  | _ u ih =>
    have hd : ∀ k : Nat, k < 10 → Cl [UInt8.ofNat (48 + k)] := by
      intro k hk c hc
      rw [List.mem_singleton] at hc
      subst hc
      have : ∀ i : Fin 10, UInt8.ofNat (48 + i.val) ≠ 9 ∧ UInt8.ofNat (48 + i.val) ≠ 10 := by decide
      exact this ⟨k, hk⟩
    rw [Lib.decDigits]
    split
    · exact hd _ (by omega)
    · exact (ih _ (by omega)).app (hd _ (Nat.mod_lt _ (by omega)))
theorem cl_itoa (n : Int) : Cl (Lib.itoa n) := by
  unfold Lib.itoa
  split
  · intro c hc
    rcases List.mem_cons.1 hc with rfl | hc
    · decide
    · exact cl_dec _ c hc
  · exact cl_dec _
theorem cl_join {ls : List (List UInt8)} (h : ∀ l ∈ ls, Cl l) : Cl (Lib.join ls [44, 32]) := by
  cases ls with
  | nil => exact cl_nil
  | cons x r =>
    rw [Lib.join_cons]
    refine (h x (List.mem_cons_self ..)).app ?_
    unfold Lib.joinTail
    refine cl_flat fun l hl => ?_
    obtain ⟨y, hy, rfl⟩ := List.mem_map.1 hl
    exact Cl.app (by unfold Cl; decide) (h y (List.mem_cons_of_mem _ hy))
theorem cl_sign (o : Int) : Cl (signF o) := by
  unfold signF
  split
  · exact cl_nil
  · rw [List.getD_eq_getElem?_getD]
    cases h : signList[o.toNat]? with
    | none => exact cl_nil
    | some x =>
      have hl : ∀ x ∈ signList, ∀ c ∈ x, c ≠ 9 ∧ c ≠ 10 := by decide
      exact hl x (List.mem_of_getElem? h)
theorem cl_getD {ls : List (List UInt8)} {i : Nat} {d : List UInt8} (hd : Cl d) (h : ∀ l ∈ ls, Cl l) : Cl (ls.getD i d) := by
  rw [List.getD_eq_getElem?_getD]
  cases hx : ls[i]? with
  | none => exact hd
  | some x => exact h x (List.mem_of_getElem? hx)
theorem cl_txtN {k num : Int} {nm : List UInt8} {op : Int} {ts : List (List UInt8)} (hn : Cl nm) (h : ∀ l ∈ ts, Cl l) : Cl (txtN k num nm op ts) := by
  have h0 := cl_getD (i := 0) cl_nil h
  have h1 := cl_getD (i := ts.length - 1) cl_nil h
  have hs := cl_sign op
  unfold txtN
  repeat' split
  · exact cl_itoa num
  · unfold Cl; decide
  · unfold Cl; decide
  · exact hn
  · exact ((hn.app (by unfold Cl; decide)).app (cl_join h)).app (by unfold Cl; decide)
  · unfold Cl; decide
  · exact ((hn.app (by unfold Cl; decide)).app h0).app (by unfold Cl; decide)
  · exact Cl.app (by unfold Cl; decide) h0
  · exact (((Cl.app (by unfold Cl; decide) h0).app (by unfold Cl; decide)).app h1).app (by unfold Cl; decide)
  · exact (((Cl.app (by unfold Cl; decide) h0).app (by unfold Cl; decide)).app h1).app (by unfold Cl; decide)
  · exact (((((Cl.app (by unfold Cl; decide) h0).app (by unfold Cl; decide)).app hs).app (by unfold Cl; decide)).app h1).app (by unfold Cl; decide)
def clB (l : List UInt8) : Bool := l.all fun c => c != 10 && c != 9
theorem clB_iff {l : List UInt8} (h : clB l = true) : Cl l := fun c hc => by
  have := List.all_eq_true.1 h c hc
  simp only [Bool.and_eq_true, bne_iff_ne, ne_eq] at this
  exact ⟨this.2, this.1⟩
mutual
/-- No names with tabs or line's ends. -/
def cleanE : S31 → Bool
  | ⟨_, _, _, nm, _, kids⟩ => clB nm.data.toList && cleanL kids
def cleanL : List S31 → Bool
  | [] => true
  | e :: r => cleanE e && cleanL r
end
theorem cleanL_mem : ∀ {l : List S31} {e}, cleanL l = true → e ∈ l → cleanE e = true
  | x :: r, e, h, hm => by
    rw [cleanL, Bool.and_eq_true] at h
    rcases List.mem_cons.1 hm with rfl | hm
    · exact h.1
    · exact cleanL_mem h.2 hm
theorem cleanL_all : ∀ l, cleanL l = l.all cleanE
  | [] => by rw [cleanL]; rfl
  | e :: r => by rw [cleanL, cleanL_all r]; rfl
theorem cl_txtE : ∀ (e : S31), cleanE e = true → Cl (txtE e)
  | ⟨k, p, num, name, op, kids⟩, h => by
    rw [cleanE, Bool.and_eq_true] at h
    rw [txtE_node]
    have ih : ∀ e ∈ kids, Cl (txtE e) := fun e he => cl_txtE e (cleanL_mem h.2 he)
    refine cl_txtN (clB_iff h.1) fun l hl => ?_
    obtain ⟨e, he, rfl⟩ := List.mem_map.1 hl
    exact ih e he
termination_by e => SizeOf.sizeOf e
decreasing_by
  have := List.sizeOf_lt_of_mem he
  simp only [S31.mk.sizeOf_spec]
  omega
mutual
def plainS : S38 → Bool
  | ⟨_, _, nm, es, th, el⟩ => clB nm.data.toList && (cleanL es && (plainSs th && plainSs el))
def plainSs : List S38 → Bool
  | [] => true
  | s :: r => plainS s && plainSs r
end
mutual
/-- How many lines. -/
def countS : S38 → Nat
  | ⟨does, _, _, _, th, el⟩ => (if does = 4 ∨ does = 5 then 2 + countSs th else 1) + (if does = 4 ∧ 0 < el.length then 1 + countSs el else 0)
def countSs : List S38 → Nat
  | [] => 0
  | s :: r => countS s + countSs r
end
/-- The law's scan: is it a line's start, how many tabs, how many lines; none: a line has too few tabs. -/
def scanF (deep : Nat) : List UInt8 → Bool → Nat → Nat → Option (Bool × Nat × Nat)
  | [], st, tb, n => some (st, tb, n)
  | c :: r, st, tb, n =>
    if st = true ∧ c = 9 then scanF deep r st (tb + 1) n
    else if st = true ∧ tb < deep then none
    else if c = 10 then scanF deep r true 0 (n + 1)
    else scanF deep r false tb n
theorem scan_tabs (deep : Nat) (r : List UInt8) (n : Nat) : ∀ (d tb : Nat), scanF deep (tabN d ++ r) true tb n = scanF deep r true (tb + d) n
  | 0, tb => rfl
  | d + 1, tb => by
    rw [tabN, List.replicate_succ, List.cons_append, scanF, if_pos ⟨rfl, rfl⟩]
    have := scan_tabs deep r n d (tb + 1)
    rw [tabN] at this
    rw [this, Nat.add_assoc, Nat.add_comm 1 d]
theorem scan_mid (deep : Nat) (r : List UInt8) (n tb : Nat) : ∀ b : List UInt8, Cl b → scanF deep (b ++ 10 :: r) false tb n = scanF deep r true 0 (n + 1)
  | [], _ => by rw [List.nil_append, scanF, if_neg (by simp), if_neg (by simp), if_pos rfl]
  | c :: b, h => by
    have hc := h c (List.mem_cons_self ..)
    rw [List.cons_append, scanF, if_neg (by simp), if_neg (by simp), if_neg hc.2]
    exact scan_mid deep r n tb b (fun x hx => h x (List.mem_cons_of_mem _ hx))
/-- One line. -/
theorem scan_line (deep d n : Nat) (hd : deep ≤ d) (b r : List UInt8) (hb : b ≠ []) (h : Cl b) : scanF deep (tabN d ++ (b ++ 10 :: r)) true 0 n = scanF deep r true 0 (n + 1) := by
  rw [scan_tabs]
  cases b with
  | nil => exact absurd rfl hb
  | cons c b =>
    have hc := h c (List.mem_cons_self ..)
    rw [List.cons_append, scanF, if_neg (fun e => hc.1 e.2), if_neg (fun e => by omega), if_neg hc.2]
    exact scan_mid deep r n _ b (fun x hx => h x (List.mem_cons_of_mem _ hx))
end Go.Proofs.YtaammdmaldodaaaDoor.B
