/- The scan of a statement's text, kind by kind; in plain Lean. -/
import Derived.Test.YtaammdmaldodaaaDoorAstScanP
import Derived.Test.YtaammdmaldodaaaDoorAstStmt
namespace Go.Proofs.YtaammdmaldodaaaDoor.B
open Go.RowKit Go.Proofs.YtaammdmaldodaaaDoor.Mine Go.Proofs.YtaammdmaldodaaaDoor.Sep
set_option linter.unusedVariables false
set_option linter.unusedSimpArgs false
theorem scan_stN (deep d : Nat) (hd : deep ≤ d) (k : Int) (nm a b th el : List UInt8) (ct ce : Nat) (bare : Bool) (hn : Cl nm) (ha : Cl a) (hb : Cl b)
    (hth : ∀ n r, scanF deep (th ++ r) true 0 n = scanF deep r true 0 (n + ct)) (hel : ∀ n r, scanF deep (el ++ r) true 0 n = scanF deep r true 0 (n + ce)) (n : Nat) (r : List UInt8) :
    scanF deep (stN k (tabN d) nm a b th el bare ++ r) true 0 n = scanF deep r true 0 (n + ((if k = 4 ∨ k = 5 then 2 + ct else 1) + (if k = 4 ∧ bare = false then 1 + ce else 0))) := by
  have one : ∀ (x : List UInt8) (l : List UInt8), l = tabN d ++ x ++ [10] → x ≠ [] → Cl x → scanF deep (l ++ r) true 0 n = scanF deep r true 0 (n + 1) := by
    intro x l hl h0 hx
    rw [hl]
    have := scan_line deep d n hd x r h0 hx
    rw [List.append_assoc, List.append_assoc]
    exact this
  by_cases h1 : k = 1
  · subst h1
    rw [stN1, if_neg (by decide), if_neg (by simp)]
    exact one ([108, 101, 116, 32] ++ nm ++ [32, 61, 32] ++ a ++ [59]) _ (by simp) (by simp) ((((Cl.app (by unfold Cl; decide) hn).app (by unfold Cl; decide)).app ha).app (by unfold Cl; decide))
  by_cases h2 : k = 2
  · subst h2
    rw [stN2, if_neg (by decide), if_neg (by simp)]
    exact one (nm ++ [32, 61, 32] ++ a ++ [59]) _ (by simp) (by simp) (((hn.app (by unfold Cl; decide)).app ha).app (by unfold Cl; decide))
  by_cases h3 : k = 3
  · subst h3
    rw [stN3, if_neg (by decide), if_neg (by simp)]
    exact one (nm ++ [91] ++ a ++ [93, 32, 61, 32] ++ b ++ [59]) _ (by simp) (by simp) (((((hn.app (by unfold Cl; decide)).app ha).app (by unfold Cl; decide)).app hb).app (by unfold Cl; decide))
  by_cases h4 : k = 4
  · subst h4
    have hif : Cl ([105, 102, 32] ++ a ++ [32, 123]) := (Cl.app (by unfold Cl; decide) ha).app (by unfold Cl; decide)
    cases bare with
    | true =>
      rw [stN4, if_pos (.inl rfl), if_neg (by simp)]
      have e : tabN d ++ [105, 102, 32] ++ a ++ [32, 123, 10] ++ th ++ tabN d ++ [125] ++ [10] ++ r = tabN d ++ (([105, 102, 32] ++ a ++ [32, 123]) ++ 10 :: (th ++ (tabN d ++ ([125] ++ 10 :: r)))) := by simp
      rw [e, scan_line deep d n hd _ _ (by simp) hif, hth, scan_line deep d _ hd _ _ (by simp) (by unfold Cl; decide)]
      congr 1
      omega
    | false =>
      rw [stN4e, if_pos (.inl rfl), if_pos ⟨rfl, rfl⟩]
      have e : tabN d ++ [105, 102, 32] ++ a ++ [32, 123, 10] ++ th ++ tabN d ++ [125] ++ [32, 101, 108, 115, 101, 32, 123, 10] ++ el ++ tabN d ++ [125] ++ [10] ++ r = tabN d ++ (([105, 102, 32] ++ a ++ [32, 123]) ++ 10 :: (th ++ (tabN d ++ ([125, 32, 101, 108, 115, 101, 32, 123] ++ 10 :: (el ++ (tabN d ++ ([125] ++ 10 :: r))))))) := by simp
      rw [e, scan_line deep d n hd _ _ (by simp) hif, hth, scan_line deep d _ hd _ _ (by simp) (by unfold Cl; decide), hel, scan_line deep d _ hd _ _ (by simp) (by unfold Cl; decide)]
      congr 1
      omega
  by_cases h5 : k = 5
  · subst h5
    rw [stN5, if_pos (.inr rfl), if_neg (by simp)]
    have e : tabN d ++ [119, 104, 105, 108, 101, 32] ++ a ++ [32, 123, 10] ++ th ++ tabN d ++ [125, 10] ++ r = tabN d ++ (([119, 104, 105, 108, 101, 32] ++ a ++ [32, 123]) ++ 10 :: (th ++ (tabN d ++ ([125] ++ 10 :: r)))) := by simp
    rw [e, scan_line deep d n hd _ _ (by simp) ((Cl.app (by unfold Cl; decide) ha).app (by unfold Cl; decide)), hth, scan_line deep d _ hd _ _ (by simp) (by unfold Cl; decide)]
    congr 1
    omega
  by_cases h6 : k = 6
  · subst h6
    rw [stN6, if_neg (by decide), if_neg (by simp)]
    exact one ([114, 101, 116, 117, 114, 110, 32] ++ a ++ [59]) _ (by simp) (by simp) ((Cl.app (by unfold Cl; decide) ha).app (by unfold Cl; decide))
  · rw [if_neg (by omega), if_neg (fun e => h4 e.1)]
    have e : stN k (tabN d) nm a b th el bare = tabN d ++ a ++ [59, 10] := by
      unfold stN; rw [if_neg h1, if_neg h2, if_neg h3, if_neg h4, if_neg h5, if_neg h6]
    rw [e]
    exact one (a ++ [59]) _ (by simp) (by simp) (ha.app (by unfold Cl; decide))
mutual
/-- Of a plain statement the scan finds as many lines as it should have. -/
theorem scan_s (deep d : Nat) (hd : deep ≤ d) : ∀ (s : S38), plainS s = true → ∀ n r, scanF deep (txtS d s ++ r) true 0 n = scanF deep r true 0 (n + countS s)
  | ⟨k, p, name, es, th, el⟩, h, n, r => by
    rw [plainS, Bool.and_eq_true, Bool.and_eq_true, Bool.and_eq_true] at h
    obtain ⟨h1, h2, h3, h4⟩ := h
    have hts := scan_ss deep (d + 1) (by omega) th h3
    have hel := scan_ss deep (d + 1) (by omega) el h4
    have hc : ∀ l ∈ es.map txtE, Cl l := fun l hl => by
      obtain ⟨e, he, rfl⟩ := List.mem_map.1 hl
      exact cl_txtE e (cleanL_mem h2 he)
    have ha := cl_getD (i := 0) (d := [63]) (by unfold Cl; decide) hc
    have hb := cl_getD (i := 1) (d := [63]) (by unfold Cl; decide) hc
    rw [txtS, countS]
    have := scan_stN deep d hd k name.data.toList ((es.map txtE).getD 0 [63]) ((es.map txtE).getD 1 [63]) (txtSs (d + 1) th) (txtSs (d + 1) el) (countSs th) (countSs el) (decide (el.length = 0)) (clB_iff h1) ha hb hts hel n r
    rw [this]
    have e : (k = 4 ∧ decide (el.length = 0) = false) = (k = 4 ∧ 0 < el.length) := by
      simp only [decide_eq_false_iff_not, Nat.pos_iff_ne_zero, ne_eq]
    simp only [e]
theorem scan_ss (deep d : Nat) (hd : deep ≤ d) : ∀ (l : List S38), plainSs l = true → ∀ n r, scanF deep (txtSs d l ++ r) true 0 n = scanF deep r true 0 (n + countSs l)
  | [], _, n, r => by rw [txtSs, countSs]; rfl
  | s :: l, h, n, r => by
    rw [plainSs, Bool.and_eq_true] at h
    rw [txtSs, countSs, List.append_assoc, scan_s deep d hd s h.1, scan_ss deep d hd l h.2, Nat.add_assoc]
end
/-- The scan of a plain statement's text. -/
theorem scan_plain (deep : Nat) (s : S38) (h : plainS s = true) : scanF deep (txtS deep s) true 0 0 = some (true, 0, countS s) := by
  have := scan_s deep deep (Nat.le_refl _) s h 0 []
  rw [List.append_nil, Nat.zero_add] at this
  rw [this, scanF]
end Go.Proofs.YtaammdmaldodaaaDoor.B
