/- Parsing, in plain Lean: the tokens of given pieces of text; the texts of chapter 04's laws. -/
import Derived.Test.YtenkganofobioaaDoorPaGramP
namespace Go.Proofs.YtenkganofobioaaDoor.B
open Go.RowKit Go.Proofs.YtenkganofobioaaDoor.Mine Go.Proofs.YtenkganofobioaaDoor.Sep Go.Proofs.YtenkganofobioaaDoorW.PrintWords Go.Proofs.YtenkganofobioaaDoorW.PrintLast Go.Proofs.YtenkganofobioaaDoorW.PrintMore
set_option linter.unusedVariables false
set_option linter.unusedSimpArgs false
def marks2 : List (List UInt8) := [[38, 38], [124, 124], [61, 61], [33, 61], [60, 61], [62, 61], [60, 60], [62, 62]]
def safes : List UInt8 := [43, 45, 42, 37, 94, 40, 41, 123, 125, 91, 93, 44, 59]
def loose : List UInt8 := [47, 38, 124, 60, 62, 61, 33]
theorem safe_mark {x : UInt8} (hx : x ∈ safes) (r : List UInt8) : markP (x :: r) = [x] ∧ isB x = false ∧ isL x = false ∧ isD x = false ∧ x ≠ 47 := by
  simp only [safes, List.mem_cons, List.not_mem_nil, or_false] at hx
  rcases hx with rfl | rfl | rfl | rfl | rfl | rfl | rfl | rfl | rfl | rfl | rfl | rfl | rfl <;> exact ⟨rfl, by decide, by decide, by decide, by decide⟩
theorem loose_mark {x : UInt8} (hx : x ∈ loose) (r : List UInt8) : markP (x :: 32 :: r) = [x] ∧ isB x = false ∧ isL x = false ∧ isD x = false := by
  simp only [loose, List.mem_cons, List.not_mem_nil, or_false] at hx
  rcases hx with rfl | rfl | rfl | rfl | rfl | rfl | rfl <;> exact ⟨rfl, by decide, by decide, by decide⟩
theorem two_mark {x y : UInt8} (hx : [x, y] ∈ marks2) (r : List UInt8) : markP (x :: y :: r) = [x, y] ∧ isB x = false ∧ isL x = false ∧ isD x = false ∧ x ≠ 47 := by
  simp only [marks2, List.mem_cons, List.not_mem_nil, or_false, List.cons.injEq, and_true] at hx
  rcases hx with ⟨rfl, rfl⟩ | ⟨rfl, rfl⟩ | ⟨rfl, rfl⟩ | ⟨rfl, rfl⟩ | ⟨rfl, rfl⟩ | ⟨rfl, rfl⟩ | ⟨rfl, rfl⟩ | ⟨rfl, rfl⟩ <;> exact ⟨rfl, by decide, by decide, by decide, by decide⟩
theorem lex_safe {x : UInt8} (hx : x ∈ safes) {r : List UInt8} {tk : List Tk} (h : LexTo r tk) : LexTo (x :: r) (mkT [x] :: tk) := by
  obtain ⟨h1, h2, h3, h4, h5⟩ := safe_mark hx r
  exact lex_mark (w := []) h2 h3 h4 (fun e => absurd e h5) h1 h
theorem lex_loose {x : UInt8} (hx : x ∈ loose) {r : List UInt8} {tk : List Tk} (h : LexTo (32 :: r) tk) : LexTo (x :: 32 :: r) (mkT [x] :: tk) := by
  obtain ⟨h1, h2, h3, h4⟩ := loose_mark hx r
  exact lex_mark (w := []) h2 h3 h4 (fun e => by simp) h1 h
theorem lex_two {x y : UInt8} (hx : [x, y] ∈ marks2) {r : List UInt8} {tk : List Tk} (h : LexTo r tk) : LexTo (x :: y :: r) (mkT [x, y] :: tk) := by
  obtain ⟨h1, h2, h3, h4, h5⟩ := two_mark hx r
  exact lex_mark (w := [y]) h2 h3 h4 (fun e => absurd e h5) h1 h
/-- The tokens of a piece of text that ends with a blank or a mark that nothing makes longer. -/
def lexU : Nat → List UInt8 → Option (List Tk)
  | 0, _ => none
  | _ + 1, [] => some []
  | k + 1, x :: r =>
    if isB x = true then lexU k r
    else if isL x = true then
      (match r.drop (runN true r) with
      | [] => none
      | y :: z => (lexU k (y :: z)).map fun ts => (if wordList.contains (x :: r.take (runN true r)) then 3 else 1, x :: r.take (runN true r), 0) :: ts)
    else if isD x = true then
      (match r.drop (runN false r), valP 0 (x :: r.take (runN false r)) with
      | y :: z, some v => (lexU k (y :: z)).map fun ts => (2, x :: r.take (runN false r), v) :: ts
      | _, _ => none)
    else if safes.contains x = true then (lexU k r).map fun ts => mkT [x] :: ts
    else match r with
      | [] => none
      | y :: z => if marks2.contains [x, y] = true then (lexU k z).map fun ts => mkT [x, y] :: ts
        else if loose.contains x = true ∧ y = 32 then (lexU k (y :: z)).map fun ts => mkT [x] :: ts else none
theorem run_stop (nm : Bool) : ∀ (r : List UInt8) (y : UInt8) (z : List UInt8), r.drop (runN nm r) = y :: z → (isD y || (nm && isL y)) = false ∧ (∀ x ∈ r.take (runN nm r), (isD x || (nm && isL x)) = true) ∧ r = r.take (runN nm r) ++ (y :: z)
  | [], y, z, h => by simp at h
  | c :: r, y, z, h => by
    rw [runN] at h ⊢
    by_cases hc : (isD c || (nm && isL c)) = true
    · rw [if_pos hc, Nat.add_comm, List.drop_succ_cons] at h
      obtain ⟨h1, h2, h3⟩ := run_stop nm r y z h
      rw [if_pos hc, Nat.add_comm, List.take_succ_cons]
      refine ⟨h1, fun x hx => ?_, ?_⟩
      · rcases List.mem_cons.1 hx with rfl | hx
        · exact hc
        · exact h2 x hx
      · rw [List.cons_append, ← h3]
    · rw [if_neg hc, List.drop_zero] at h
      rw [if_neg hc, List.take_zero]
      injection h with h1 h2
      subst h1 h2
      exact ⟨by simpa using hc, fun x hx => by simp at hx, rfl⟩
theorem lexU_to : ∀ (k : Nat) (u : List UInt8) (T : List Tk), lexU k u = some T → ∀ (r : List UInt8) (tk : List Tk), LexTo r tk → LexTo (u ++ r) (T ++ tk)
  | 0, u, T, h, r, tk, hr => by rw [lexU] at h; cases h
  | k + 1, [], T, h, r, tk, hr => by
    rw [lexU] at h
    obtain rfl := Option.some.inj h
    exact hr
  | k + 1, x :: u, T, h, r, tk, hr => by
    unfold lexU at h
    split at h
    · rename_i hb
      exact lex_blank hb (lexU_to k u T h r tk hr)
    split at h
    · rename_i hl
      split at h
      · cases h
      · rename_i y z hd
        obtain ⟨h1, h2, h3⟩ := run_stop true u y z hd
        obtain ⟨ts, hts, rfl⟩ := Option.map_eq_some_iff.1 h
        have ih := lexU_to k (y :: z) ts hts r tk hr
        rw [List.cons_append] at ih
        have := lex_name (x := x) (w := u.take (runN true u)) hl (fun q hq => by simpa using h2 q hq) (r := y :: (z ++ r)) (fun q hq => by
          simp only [List.head?_cons, Option.mem_def, Option.some.injEq] at hq
          subst hq
          simpa using h1) ih
        rw [List.cons_append] at this ⊢
        have e : u ++ r = u.take (runN true u) ++ (y :: (z ++ r)) := by
          conv => lhs; rw [h3]
          rw [List.append_assoc]; rfl
        rw [e]
        exact this
    split at h
    · rename_i hd0
      split at h
      · rename_i y z v hd hv
        obtain ⟨h1, h2, h3⟩ := run_stop false u y z hd
        obtain ⟨ts, hts, rfl⟩ := Option.map_eq_some_iff.1 h
        have ih := lexU_to k (y :: z) ts hts r tk hr
        rw [List.cons_append] at ih
        have := lex_num (x := x) (w := u.take (runN false u)) hd0 (fun q hq => by simpa using h2 q hq) (r := y :: (z ++ r)) (fun q hq => by
          simp only [List.head?_cons, Option.mem_def, Option.some.injEq] at hq
          subst hq
          simpa using h1) hv ih
        rw [List.cons_append] at this ⊢
        have e : u ++ r = u.take (runN false u) ++ (y :: (z ++ r)) := by
          conv => lhs; rw [h3]
          rw [List.append_assoc]; rfl
        rw [e]
        exact this
      · cases h
    split at h
    · rename_i hs
      obtain ⟨ts, hts, rfl⟩ := Option.map_eq_some_iff.1 h
      exact lex_safe (by simpa using hs) (lexU_to k u ts hts r tk hr)
    split at h
    · cases h
    · rename_i y z
      split at h
      · rename_i hm
        obtain ⟨ts, hts, rfl⟩ := Option.map_eq_some_iff.1 h
        exact lex_two (by simpa using hm) (lexU_to k z ts hts r tk hr)
      · split at h
        · rename_i hm
          obtain ⟨hm1, rfl⟩ := hm
          obtain ⟨ts, hts, rfl⟩ := Option.map_eq_some_iff.1 h
          exact lex_loose (by simpa using hm1) (lexU_to k (32 :: z) ts hts r tk hr)
        · cases h
theorem G.top {d : Nat} {e : EX} {ts : List Tk} (h : G 0 d e ts) : G 5 d e ts := G.up (by decide) (G.up (by decide) (G.up (by decide) (G.up (by decide) (G.up (by decide) h))))
abbrev num_ (v : Int) : EX := ⟨1, P0, v, bs [], 0, []⟩
abbrev var_ (n : List UInt8) : EX := ⟨3, P0, 0, bs n, 0, []⟩
end Go.Proofs.YtenkganofobioaaDoor.B
