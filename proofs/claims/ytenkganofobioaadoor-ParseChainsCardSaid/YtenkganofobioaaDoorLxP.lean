/- Lexing, in plain Lean, over lists of bytes; one store more. -/
import Derived.Test.YtenkganofobioaaDoorAstBase
import Derived.Test.YtenkganofobioaaDoorSep3
import Derived.Test.YtenkganofobioaaDoorBx2
namespace Go.Proofs.YtenkganofobioaaDoor.B
open Go.RowKit Go.Proofs.YtenkganofobioaaDoor.Mine Go.Proofs.YtenkganofobioaaDoor.Sep Go.Proofs.YtenkganofobioaaDoorW.PrintWords Go.Proofs.YtenkganofobioaaDoorW.PrintLast Go.Proofs.YtenkganofobioaaDoorW.PrintMore
set_option linter.unusedVariables false
set_option linter.unusedSimpArgs false
section
variable {P : Program} {ops : Array Oper} {rest : List Oper} {o : Oper} {a : Act} {Q : Exit → Act → World → Prop} {α : Type} {W0 w : World} {L : List Chunk}
/-- A value is stored into a block's midst. -/
theorem ev_storeN {g : Nat} {t : TypeId} {cs : Array Value} (HS : Sat W0 w L) (i : Nat) (hi : L[i]? = some (blk g t cs)) (hgd : o.guard = none) (k : Nat) (ty : TypeId) (p x : Operand) (ho : o.op = .store ty p x) (hd : o.dst = none) (hp : a.eval p = .pointer (some ⟨g, k, none⟩)) (X : Value) (hx : a.eval x = X) (vs : List Value) (hX : X.cells.toList = vs) (hin : (P.info? ty).map (·.size) = some vs.length) (hl : k + vs.length ≤ cs.size)
    (h1 : ∀ q ∈ vs, q.oneCell' = true) (cs' : Array Value) (he : setA cs k vs = cs')
    (h : ∀ w1, Sat W0 w1 (L.set i (blk g t cs')) → wpList P ops Q rest a w1) : wpList P ops Q (o :: rest) a w := by
  refine wpList_plain hgd fun K hK => ?_
  have hr := run_store_run (P := P) (w := w) (o := k) ty X vs (HS.blk i hi) hX hin (by omega) h1
  unfold Oper.wp execOp
  simp only [ho, hp, hx, Sem.run_bind, Sem.run_pure, hr, Result.andThen_ok]
  show K (a.put o.dst undef) _
  rw [hd]
  refine hK _ _ (h _ (HS.upd i hi fun s h => ?_))
  obtain ⟨h1, h2, h3, h4⟩ := but_setCells g vs k w
  refine ⟨⟨h1, h2, h3, by omega, fun j _ hs => Sep.heap_setCells g vs k w j (fun e => hs (by rw [e]; exact h.2))⟩, ?_, .inl h.2⟩
  rw [← he]
  exact blk_setCells g t vs k w cs h.1
end
def isL (c : UInt8) : Bool := (decide (97 ≤ c.toNat) && decide (c.toNat ≤ 122)) || ((decide (65 ≤ c.toNat) && decide (c.toNat ≤ 90)) || c == 95)
def isD (c : UInt8) : Bool := decide (48 ≤ c.toNat) && decide (c.toNat ≤ 57)
def isB (c : UInt8) : Bool := c == 32 || (c == 9 || (c == 10 || c == 13))
/-- Where one is behind these bytes. -/
def posA (l c : Int) : List UInt8 → Int × Int
  | [] => (l, c)
  | x :: r => if x = 10 then posA (l + 1) 1 r else posA l (c + 1) r
/-- How many bytes are blank, or behind two strokes on a line. -/
def blkN : Bool → List UInt8 → Nat
  | _, [] => 0
  | true, c :: r => if c = 10 then 1 + blkN false r else 1 + blkN true r
  | false, c :: r => if isB c = true then 1 + blkN false r else if c = 47 ∧ r.head? = some 47 then 1 + blkN true r else 0
def runN (nm : Bool) : List UInt8 → Nat
  | [] => 0
  | c :: r => if (isD c || (nm && isL c)) = true then 1 + runN nm r else 0
/-- A number's value; none: it is too great. -/
def valP (n : Int) : List UInt8 → Option Int
  | [] => some n
  | c :: r => if n > (9223372036854775807 - ((c.toNat : Int) - 48)) / 10 then none else valP (n * 10 + ((c.toNat : Int) - 48)) r
def markP (r : List UInt8) : List UInt8 := (markList.find? fun m => m.isPrefixOf r).getD []
/-- The next token, and how many bytes are gone behind it; or why there is none. -/
inductive Nx where
  | tok (t : S71) (used : Nat)
  | err (e : Int) (used : Nat)
def nxtP (r1 : List UInt8) (l1 c1 : Int) (n : Nat) : Nx :=
  match r1 with
  | [] => .tok ⟨0, bs [], 0, ⟨l1, c1⟩⟩ n
  | x :: _ =>
    if isL x = true then .tok ⟨if wordList.contains (r1.take (runN true r1)) then 3 else 1, bs (r1.take (runN true r1)), 0, ⟨l1, c1⟩⟩ (n + runN true r1)
    else if isD x = true then
      match valP 0 (r1.take (runN false r1)) with
      | none => .err 11 n
      | some v => .tok ⟨2, bs (r1.take (runN false r1)), v, ⟨l1, c1⟩⟩ (n + runN false r1)
    else if markP r1 = [] then .err 10 n
    else .tok ⟨4, bs (markP r1), 0, ⟨l1, c1⟩⟩ (n + (markP r1).length)
def nextP (r : List UInt8) (l c : Int) : Nx := nxtP (r.drop (blkN false r)) (posA l c (r.take (blkN false r))).1 (posA l c (r.take (blkN false r))).2 (blkN false r)
/-- All tokens of what is left; or the error, and where. -/
def allP : Nat → List UInt8 → Int → Int → Option (Sum (List S71) (Int × Int × Int))
  | 0, _, _, _ => none
  | k + 1, r, l, c =>
    match nextP r l c with
    | .err e n => some (.inr (e, posA l c (r.take n)))
    | .tok t n =>
      if t.f0 = 0 then some (.inl [t])
      else match allP k (r.drop n) (posA l c (r.take n)).1 (posA l c (r.take n)).2 with
        | none => none
        | some (.inr e) => some (.inr e)
        | some (.inl ts) => some (.inl (t :: ts))
theorem posA_app (l c : Int) : ∀ (u v : List UInt8), posA l c (u ++ v) = posA (posA l c u).1 (posA l c u).2 v
  | [], v => rfl
  | x :: u, v => by
    rw [List.cons_append, posA, posA]
    by_cases h : x = 10
    · rw [if_pos h, if_pos h]; exact posA_app _ _ u v
    · rw [if_neg h, if_neg h]; exact posA_app _ _ u v
theorem posA_bound {l c : Int} (hl : 0 ≤ l) (hc : 0 ≤ c) : ∀ u : List UInt8, 0 ≤ (posA l c u).1 ∧ (posA l c u).1 ≤ l + u.length ∧ 0 ≤ (posA l c u).2 ∧ (posA l c u).2 ≤ c + 1 + u.length
  | [] => by simp only [posA, List.length_nil]; omega
  | x :: u => by
    rw [posA, List.length_cons]
    split
    · have := posA_bound (l := l + 1) (c := 1) (by omega) (by omega) u
      omega
    · have := posA_bound (l := l) (c := c + 1) hl (by omega) u
      omega
theorem letter_bs (c : UInt8) : lex_letter.f (c.toNat : Int) = some (isL c) := by
  unfold lex_letter.f isL
  have e : (((c.toNat : Nat) : Int) == 95) = (c == 95) := by
    rw [Bool.eq_iff_iff, beq_iff_eq, beq_iff_eq]
    constructor
    · intro h; exact UInt8.toNat_inj.1 (by have : c.toNat = 95 := by omega
                                           rw [this]; rfl)
    · rintro rfl; rfl
  rw [e]
  by_cases h1 : 97 ≤ c.toNat
  · rw [if_pos (by omega)]
    by_cases h2 : c.toNat ≤ 122
    · rw [if_pos (by omega)]; simp [h1, h2]
    · rw [if_neg (by omega), if_pos (by omega), if_neg (by omega)]
      have h3 : ¬ c.toNat ≤ 90 := by omega
      simp [h2, h3]
  · rw [if_neg (by omega)]
    by_cases h2 : 65 ≤ c.toNat
    · rw [if_pos (by omega)]
      by_cases h3 : c.toNat ≤ 90
      · rw [if_pos (by omega)]; simp [h1, h2, h3]
      · rw [if_neg (by omega)]; simp [h1, h3]
    · rw [if_neg (by omega)]; simp [h1, h2]
theorem digit_bs (c : UInt8) : lex_digit.f (c.toNat : Int) = some (isD c) := by
  unfold lex_digit.f isD
  by_cases h1 : 48 ≤ c.toNat
  · rw [if_pos (by omega)]
    have e : decide ((c.toNat : Int) ≤ 57) = decide (c.toNat ≤ 57) := by
      by_cases h2 : c.toNat ≤ 57
      · rw [decide_eq_true h2, decide_eq_true (by omega)]
      · rw [decide_eq_false h2, decide_eq_false (by omega)]
    rw [e]; simp [h1]
  · rw [if_neg (by omega)]; simp [h1]
theorem drop_get {s : List UInt8} {i : Nat} (h : i < s.length) : s.drop i = s[i] :: s.drop (i + 1) := List.drop_eq_getElem_cons h
end Go.Proofs.YtenkganofobioaaDoor.B
