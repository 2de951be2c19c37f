/- The machine that runs ahead, in plain words: what it knows is what the machine of layer 19 comes to. -/
import Derived.Test.YtkgoljbimblkhaaSpecG
import Derived.Test.YtkgoljbimblkhaaSpecK
import Derived.Test.YtkgoljbimblkhaaSpecN
namespace Go.Proofs.Ytkgoljbimblkhaa.B
open Go.RowKit Go.Proofs.Ytkgoljbimblkhaa.Mine Go.Proofs.Ytkgoljbimblkhaa.Sep Go.Proofs.YtkgoljbimblkhaaW.PrintWords Go.Proofs.YtkgoljbimblkhaaW.PrintLast Go.Proofs.YtkgoljbimblkhaaW.PrintMore
set_option linter.unusedVariables false
set_option linter.unusedSimpArgs false
section
variable {M1 M2 : Type} {f1 : MF M1} {f2 : MF M2} {R : M1 → M2 → Prop}
/-- Two memories that answer alike: the machine does the same over both. -/
structure Alike (f1 : MF M1) (f2 : MF M2) (R : M1 → M2 → Prop) : Prop where
  red : ∀ {m1 m2}, R m1 m2 → ∀ a, f1.rd m1 a = f2.rd m2 a
  wri : ∀ {m1 m2}, R m1 m2 → ∀ a v, (f1.wr m1 a v).2 = (f2.wr m2 a v).2 ∧ R (f1.wr m1 a v).1 (f2.wr m2 a v).1
theorem reachF_alike (H : Alike f1 f2 R) (i : S56) (s : St) {m1 : M1} {m2 : M2} (h : R m1 m2) : (reachF f1 i s m1).1 = (reachF f2 i s m2).1 ∧ (reachF f1 i s m1).2.2 = (reachF f2 i s m2).2.2 ∧ R (reachF f1 i s m1).2.1 (reachF f2 i s m2).2.1 := by
  unfold reachF
  by_cases h4 : i.f0 = 4
  · rw [if_pos h4, if_pos h4, H.red h]
    split <;> exact ⟨rfl, rfl, h⟩
  · rw [if_neg h4, if_neg h4]
    obtain ⟨w1, w2⟩ := H.wri h (wrap64 (rd s.regs i.f2 + i.f5)) (rd s.regs i.f3)
    rw [w1]
    split <;> exact ⟨rfl, rfl, w2⟩
theorem callF_alike (H : Alike f1 f2 R) (i : S56) (s : St) {m1 : M1} {m2 : M2} (h : R m1 m2) : (callF f1 i s m1).1 = (callF f2 i s m2).1 ∧ (callF f1 i s m1).2.2 = (callF f2 i s m2).2.2 ∧ R (callF f1 i s m1).2.1 (callF f2 i s m2).2.1 := by
  unfold callF
  by_cases h8 : i.f0 = 8
  · rw [if_pos h8, if_pos h8]
    obtain ⟨w1, w2⟩ := H.wri h (rd s.regs 63) (wrap64 (s.pc + 1))
    rw [w1]
    split <;> exact ⟨rfl, rfl, w2⟩
  · rw [if_neg h8, if_neg h8, H.red h]
    split <;> exact ⟨rfl, rfl, h⟩
theorem doF_alike (H : Alike f1 f2 R) (i : S56) (s : St) {m1 : M1} {m2 : M2} (h : R m1 m2) : (doF f1 i s m1).1 = (doF f2 i s m2).1 ∧ (doF f1 i s m1).2.2 = (doF f2 i s m2).2.2 ∧ R (doF f1 i s m1).2.1 (doF f2 i s m2).2.1 := by
  unfold doF
  split
  · exact ⟨rfl, rfl, h⟩
  split
  · exact ⟨rfl, rfl, h⟩
  split
  · split <;> exact ⟨rfl, rfl, h⟩
  split
  · exact reachF_alike H i s h
  split
  · exact ⟨rfl, rfl, h⟩
  split
  · split <;> exact ⟨rfl, rfl, h⟩
  split
  · exact callF_alike H i s h
  split
  · exact ⟨rfl, rfl, h⟩
  split <;> exact ⟨rfl, rfl, h⟩
theorem stepF_alike (H : Alike f1 f2 R) (code : List S56) (s : St) {m1 : M1} {m2 : M2} (h : R m1 m2) : (stepF f1 code s m1).1 = (stepF f2 code s m2).1 ∧ (stepF f1 code s m1).2.2 = (stepF f2 code s m2).2.2 ∧ R (stepF f1 code s m1).2.1 (stepF f2 code s m2).2.1 := by
  unfold stepF
  split
  · exact ⟨rfl, rfl, h⟩
  split
  · exact ⟨rfl, rfl, h⟩
  · obtain ⟨h1, h2, h3⟩ := doF_alike H (rd_T56 code s.pc) { s with steps := wrap64 (s.steps + 1) } h
    exact ⟨h1, by rw [h2], h3⟩
end
/-- Words that wait are words of the memory. -/
def OkB (n : Nat) (b : List (Int × Int)) : Prop := ∀ x ∈ b, 0 ≤ x.1 ∧ x.1 < (n : Int)
theorem wRd_set (m : List Int) (i a v : Int) (h0 : 0 ≤ i) (h1 : i < (m.length : Int)) : wRd (m.set i.toNat v) a = if i = a then (v, true) else wRd m a := by
  unfold wRd
  rw [List.length_set]
  by_cases h : i = a
  · subst h
    rw [if_pos ⟨h0, h1⟩, if_pos rfl]
    unfold rd
    rw [List.getD_eq_getElem?_getD, List.getElem?_set_self (by omega)]
    rfl
  · rw [if_neg h]
    by_cases hr : 0 ≤ a ∧ a < (m.length : Int)
    · rw [if_pos hr, if_pos hr]
      unfold rd
      rw [List.getD_eq_getElem?_getD, List.getD_eq_getElem?_getD, List.getElem?_set_ne (by omega)]
    · rw [if_neg hr, if_neg hr]
theorem find_wrs (m : List Int) (a : Int) : ∀ r : List (Int × Int), OkB m.length r → (match vFind false a r with | some v => (v, true) | none => wRd m a) = wRd (wrs m r.reverse) a
  | [], _ => rfl
  | x :: r, h => by
    have hx := h x (List.mem_cons_self ..)
    have ih := find_wrs m a r (fun y hy => h y (List.mem_cons_of_mem _ hy))
    rw [List.reverse_cons, wrs_append]
    show _ = wRd (wWr (wrs m r.reverse) x.1 x.2).1 a
    unfold wWr
    rw [wrs_length, if_pos hx, wRd_set _ _ _ _ hx.1 (by rw [wrs_length]; exact hx.2), vFind]
    by_cases e : x.1 = a
    · rw [if_pos e, if_pos e, if_neg (by decide)]
    · rw [if_neg e, if_neg e]
      exact ih
def VW (m0 : List Int) (m1 : VM) (m2 : List Int) : Prop := m1.mem = m0 ∧ OkB m0.length m1.buf ∧ m2 = wrs m0 m1.buf
theorem inR (m : List Int) (a : Int) : (wRd m a).2 = true ↔ 0 ≤ a ∧ a < (m.length : Int) := by
  unfold wRd
  split
  · rename_i h; simp [h]
  · rename_i h; simp only [Bool.false_eq_true, false_iff]; exact h
theorem view_alike (m0 : List Int) : Alike (vF false) wF (VW m0) where
  red := by
    rintro ⟨mem, b⟩ m2 ⟨h1, h2, h3⟩ a
    dsimp only at h1 h2 h3
    subst h1 h3
    show vRd false ⟨mem, b⟩ a = wRd (wrs mem b) a
    have := find_wrs mem a b.reverse (fun x hx => h2 x (List.mem_reverse.1 hx))
    rw [List.reverse_reverse] at this
    exact this
  wri := by
    rintro ⟨mem, b⟩ m2 ⟨h1, h2, h3⟩ a v
    dsimp only at h1 h2 h3
    subst h1 h3
    show (vWr ⟨mem, b⟩ a v).2 = (wWr (wrs mem b) a v).2 ∧ VW mem (vWr ⟨mem, b⟩ a v).1 (wWr (wrs mem b) a v).1
    unfold vWr wWr
    dsimp only
    rw [wrs_length]
    by_cases h : 0 ≤ a ∧ a < (mem.length : Int)
    · rw [if_pos ((inR mem a).2 h), if_pos h]
      refine ⟨rfl, rfl, fun x hx => ?_, ?_⟩
      · rcases List.mem_append.1 hx with hx | hx
        · exact h2 x hx
        · rw [List.mem_singleton.1 hx]; exact h
      · show (wrs mem b).set a.toNat v = wrs mem (b ++ [(a, v)])
        rw [wrs_append]
        show _ = (wWr (wrs mem b) a v).1
        unfold wWr
        rw [wrs_length, if_pos h]
    · rw [if_neg (fun e => h ((inR mem a).1 e)), if_neg h]
      exact ⟨rfl, rfl, h2, rfl⟩
/-- Any view lets words of the memory wait alone. -/
theorem view_ok (k : Bool) (m0 : List Int) : Alike (vF k) (vF k) (fun m1 m2 => m1 = m2 ∧ m1.mem = m0 ∧ OkB m0.length m1.buf) where
  red := by rintro m1 m2 ⟨rfl, _, _⟩ a; rfl
  wri := by
    rintro ⟨mem, b⟩ m2 ⟨rfl, h1, h2⟩ a v
    dsimp only at h1 h2
    subst h1
    refine ⟨rfl, rfl, ?_, ?_⟩
    · exact (vWr_keeps ⟨mem, b⟩ a v).1
    · show OkB mem.length (vWr ⟨mem, b⟩ a v).1.buf
      unfold vWr
      dsimp only
      by_cases h : (wRd mem a).2 = true
      · rw [if_pos h]
        intro x hx
        rcases List.mem_append.1 hx with hx | hx
        · exact h2 x hx
        · rw [List.mem_singleton.1 hx]; exact (inR mem a).1 h
      · rw [if_neg h]; exact h2
theorem doF_kept {M : Type} (f : MF M) (i : S56) (s : St) (m : M) : (doF f i s m).1.steps = s.steps := by
  have hr : (reachF f i s m).1.steps = s.steps := by unfold reachF; split <;> split <;> rfl
  have hc : (callF f i s m).1.steps = s.steps := by unfold callF; split <;> split <;> rfl
  unfold doF
  split
  · rfl
  split
  · rfl
  split
  · split <;> rfl
  split
  · exact hr
  split
  · rfl
  split
  · split <;> rfl
  split
  · exact hc
  split
  · rfl
  split <;> rfl
theorem stepF_kept {M : Type} (f : MF M) (code : List S56) (s : St) (m : M) (he : s.ended = false) : (stepF f code s m).1.steps = wrap64 (s.steps + 1) := by
  unfold stepF
  rw [he, if_neg (by decide)]
  split
  · rfl
  · exact doF_kept f _ _ m
theorem stepF_end {M : Type} (f : MF M) (code : List S56) (s : St) (m : M) (he : s.ended = true) : stepF f code s m = (s, m, []) := by
  unfold stepF
  rw [if_pos he]
/-- The machine of layer 19, so many steps on. -/
def wRun (code : List S56) : Nat → St × List Int → St × List Int
  | 0, p => p
  | k + 1, p => wRun code k ((stepF wF code p.1 p.2).1, (stepF wF code p.1 p.2).2.1)
theorem wRun_add (code : List S56) : ∀ (a b : Nat) (p : St × List Int), wRun code (a + b) p = wRun code b (wRun code a p)
  | 0, b, p => by rw [Nat.zero_add]; rfl
  | a + 1, b, p => by rw [show a + 1 + b = (a + b) + 1 by omega, wRun, wRun_add code a b, ← wRun]
theorem wRun_succ (code : List S56) (a : Nat) (p : St × List Int) : wRun code (a + 1) p = ((stepF wF code (wRun code a p).1 (wRun code a p).2).1, (stepF wF code (wRun code a p).1 (wRun code a p).2).2.1) := wRun_add code a 1 p
theorem wRun_end (code : List S56) {p : St × List Int} (he : p.1.ended = true) : ∀ a, wRun code a p = p
  | 0 => rfl
  | a + 1 => by rw [wRun, stepF_end wF code p.1 p.2 he]; exact wRun_end code he a
/-- What holds of a machine that runs ahead, from the beginning p, after at most N deeds. -/
structure Inv (code : List S56) (p : St × List Int) (N : Nat) (X : SM) : Prop where
  regs : X.s.regs.length = 64
  mem : X.mem.length = p.2.length
  ok : OkB X.mem.length X.buf
  len : X.buf.length ≤ N
  cnt : X.n ≤ N
  st0 : 0 ≤ X.s.steps
  st1 : X.s.steps ≤ N
  sav : ∀ q, X.saved = some q → q.1.regs.length = 64 ∧ OkB X.mem.length q.2 ∧ q.2.length ≤ N ∧ 0 ≤ q.1.steps ∧ q.1.steps ≤ X.s.steps
  known : wRun code (kwnS X).steps.toNat p = (kwnS X, kwnM X)
def Good (code : List S56) (p : St × List Int) (N : Nat) (X X' : SM) : Prop := Inv code p N X' ∧ (kwnS X).steps ≤ (kwnS X').steps
section
variable {code : List S56} {p : St × List Int} {N : Nat} {X : SM}
theorem Inv.le (h : Inv code p N X) {N' : Nat} (hN : N ≤ N') : Inv code p N' X :=
  ⟨h.regs, h.mem, h.ok, by have := h.len; omega, by have := h.cnt; omega, h.st0, by have := h.st1; omega, fun q hq => by obtain ⟨a, b, c, d⟩ := h.sav q hq; exact ⟨a, b, by omega, d⟩, h.known⟩
theorem stepped_steps (h : Inv code p N X) (hN : N ≤ 1000000) (k : Bool) : X.s.steps ≤ (steppedF k code X).s.steps ∧ (steppedF k code X).s.steps ≤ X.s.steps + 1 ∧ (X.s.ended = false → (steppedF k code X).s.steps = X.s.steps + 1) := by
  have h0 := h.st0
  have h1 := h.st1
  unfold steppedF
  dsimp only
  cases he : X.s.ended with
  | true => rw [stepF_end _ _ _ _ he]; exact ⟨Int.le_refl _, by dsimp only; omega, fun e => by cases e⟩
  | false => rw [stepF_kept _ _ _ _ he, w64 _ (by omega) (by omega)]; exact ⟨by omega, by omega, fun _ => rfl⟩
theorem stepped_ok (h : Inv code p N X) (k : Bool) : OkB X.mem.length (steppedF k code X).buf :=
  (stepF_alike (view_ok k X.mem) code X.s (m1 := ⟨X.mem, X.buf⟩) (m2 := ⟨X.mem, X.buf⟩) ⟨rfl, rfl, h.ok⟩).2.2.2.2
theorem stepped_len (h : Inv code p N X) (k : Bool) : (steppedF k code X).buf.length ≤ N + 1 := by
  have h1 := (vstep_keeps k code X.s ⟨X.mem, X.buf⟩).2
  have h2 := h.len
  unfold steppedF
  dsimp only at h1 ⊢
  omega
/-- What a step comes to is what layer 19 comes to. -/
theorem stepped_wrun (h : Inv code p N X) (hs : X.saved = none) : (stepF wF code X.s (wrs X.mem X.buf)).1 = (steppedF false code X).s ∧ (stepF wF code X.s (wrs X.mem X.buf)).2.1 = wrs X.mem (steppedF false code X).buf ∧ (stepF wF code X.s (wrs X.mem X.buf)).2.2 = stepOut false code X := by
  obtain ⟨h1, h2, h3, h4, h5⟩ := stepF_alike (view_alike X.mem) code X.s (m1 := ⟨X.mem, X.buf⟩) (m2 := wrs X.mem X.buf) ⟨rfl, h.ok, rfl⟩
  exact ⟨h1.symm, h5, h2.symm⟩
theorem known_next (h : Inv code p N X) (hN : N ≤ 1000000) (hs : X.saved = none) : wRun code (steppedF false code X).s.steps.toNat p = ((steppedF false code X).s, wrs X.mem (steppedF false code X).buf) := by
  obtain ⟨a1, a2, a3⟩ := stepped_steps h hN false
  obtain ⟨b1, b2, _⟩ := stepped_wrun h hs
  have hk := h.known
  unfold kwnM kwnB kwnS at hk
  rw [hs] at hk
  dsimp only at hk
  have h0 := h.st0
  cases he : X.s.ended with
  | true =>
    rw [stepF_end wF code X.s _ he] at b1 b2
    rw [← b1, ← b2]
    exact hk
  | false =>
    rw [a3 he, show (X.s.steps + 1).toNat = X.s.steps.toNat + 1 by omega, wRun_succ, hk]
    dsimp only
    rw [b1, b2]
theorem step_none (h : Inv code p N X) (hN : N ≤ 1000000) (hs : X.saved = none) : Good code p (N + 1) X (steppedF false code X) := by
  obtain ⟨a1, a2, a3⟩ := stepped_steps h hN false
  have hk : (steppedF false code X).saved = none := hs
  refine ⟨⟨stepF_regs _ code X.s _ h.regs, h.mem, stepped_ok h false, stepped_len h false, by have := h.cnt; show X.n ≤ N + 1; omega, by have := h.st0; omega, by have := h.st1; push_cast; omega, fun q hq => (by rw [hk] at hq; cases hq), ?_⟩, ?_⟩
  · have := known_next h hN hs
    unfold kwnM kwnB kwnS
    rw [hk]
    exact this
  · unfold kwnS
    rw [hk, hs]
    exact a1
theorem step_some (h : Inv code p N X) (hN : N ≤ 1000000) {q : St × List (Int × Int)} (hs : X.saved = some q) (k : Bool) : Good code p (N + 1) X (steppedF k code X) := by
  obtain ⟨a1, a2, a3⟩ := stepped_steps h hN k
  have hk : (steppedF k code X).saved = some q := hs
  obtain ⟨c1, c2, c3, c4, c5⟩ := h.sav q hs
  refine ⟨⟨stepF_regs _ code X.s _ h.regs, h.mem, stepped_ok h k, stepped_len h k, by have := h.cnt; show X.n ≤ N + 1; omega, by have := h.st0; omega, by have := h.st1; push_cast; omega, fun q' hq => ?_, ?_⟩, ?_⟩
  · rw [hk] at hq
    obtain rfl := Option.some.inj hq
    exact ⟨c1, c2, by omega, c4, by omega⟩
  · have := h.known
    unfold kwnM kwnB kwnS at this ⊢
    rw [hs] at this
    rw [hk]
    exact this
  · unfold kwnS
    rw [hk, hs]
    exact Int.le_refl _
theorem cmt_keeps (k : Nat) : ∀ (m : List Int) (b : List (Int × Int)), (cmt k m b).1.length = m.length ∧ wrs (cmt k m b).1 (cmt k m b).2 = wrs m b ∧ (∀ x ∈ (cmt k m b).2, x ∈ b)
  | m, [] => ⟨rfl, rfl, fun x hx => hx⟩
  | m, x :: r => by
    rw [cmt]
    split
    · obtain ⟨h1, h2, h3⟩ := cmt_keeps k (wWr m x.1 x.2).1 r
      refine ⟨?_, h2, fun y hy => List.mem_cons_of_mem _ (h3 y hy)⟩
      rw [h1]
      unfold wWr
      split <;> simp
    · exact ⟨rfl, rfl, fun y hy => hy⟩
theorem commit_good (h : Inv code p N X) (hs : X.saved = none) (k : Nat) : Good code p N X (commitF k X) := by
  obtain ⟨h1, h2, h3⟩ := cmt_keeps k X.mem X.buf
  have hk : (commitF k X).saved = none := hs
  refine ⟨⟨h.regs, h1.trans h.mem, fun x hx => ?_, by have := cmt_len k X.mem X.buf; have := h.len; show (cmt k X.mem X.buf).2.length ≤ N; omega, h.cnt, h.st0, h.st1, fun q hq => (by rw [hk] at hq; cases hq), ?_⟩, ?_⟩
  · show 0 ≤ x.1 ∧ x.1 < ((cmt k X.mem X.buf).1.length : Int)
    rw [h1]
    exact h.ok x (h3 x hx)
  · have := h.known
    unfold kwnM kwnB kwnS at this ⊢
    rw [hs] at this
    rw [hk]
    show wRun code X.s.steps.toNat p = (X.s, wrs (cmt k X.mem X.buf).1 (cmt k X.mem X.buf).2)
    rw [h2]
    exact this
  · unfold kwnS
    rw [hk, hs]
    exact Int.le_refl _
theorem back_good (h : Inv code p N X) : Good code p N X (backF X) := by
  cases hs : X.saved with
  | none =>
    have : backF X = X := by unfold backF; rw [hs]
    rw [this]
    exact ⟨h, Int.le_refl _⟩
  | some q =>
    have e : backF X = { X with s := q.1, buf := q.2, saved := none, n := 0 } := by unfold backF; rw [hs]
    obtain ⟨c1, c2, c3, c4, c5⟩ := h.sav q hs
    rw [e]
    refine ⟨⟨c1, h.mem, c2, c3, Nat.zero_le _, c4, by have := h.st1; show q.1.steps ≤ N; omega, fun q' hq => (by cases hq), ?_⟩, ?_⟩
    · have := h.known
      unfold kwnM kwnB kwnS at this ⊢
      rw [hs] at this
      exact this
    · unfold kwnS
      rw [hs]
      exact Int.le_refl _
theorem Good.trans {X' X'' : SM} (h1 : Good code p N X X') {N' : Nat} (h2 : Good code p N' X' X'') : Good code p N' X X'' := ⟨h2.1, Int.le_trans h1.2 h2.2⟩
theorem honest_good (h : Inv code p N X) (hN : N ≤ 1000000) : Good code p (N + 1) X (honestF code X).1 := by
  have hst : Good code p (N + 1) X (steppedF false code X) := by
    cases hs : X.saved with
    | none => exact step_none h hN hs
    | some q => exact step_some h hN hs false
  have hk : (steppedF false code X).saved = X.saved := rfl
  unfold honestF honestT
  by_cases h2 : (steppedF false code X).saved.isSome = true
  · split
    · exact hst.trans (back_good hst.1)
    · exact hst
  · have h3 : (steppedF false code X).saved = none := by simpa using h2
    split
    · exact hst.trans (commit_good hst.1 h3 0)
    · exact hst.trans (commit_good hst.1 h3 8)
/-- A guess, and a step elsewhere. -/
theorem guess_good (h : Inv code p N X) (hN : N ≤ 1000000) (win : Int) (he : X.s.ended = false) (Y : SM) (hm : Y.mem = X.mem) (hsv : Y.saved = (guessF win (aheadP code X) X).saved) (hn : Y.n = X.n + 1) (hr : Y.s.regs.length = 64) (hb : OkB X.mem.length Y.buf) (hl : Y.buf.length ≤ N + 1) (hst : Y.s.steps = X.s.steps + 1) : Good code p (N + 1) X Y := by
  have h0 := h.st0
  have h1 := h.st1
  have hc := h.cnt
  cases hs : X.saved with
  | none =>
    have e : Y.saved = some (aheadP code X) := by rw [hsv]; unfold guessF; rw [hs]; rfl
    obtain ⟨a1, a2, a3⟩ := stepped_steps h hN false
    have a3 := a3 he
    refine ⟨⟨hr, by rw [hm]; exact h.mem, by rw [hm]; exact hb, hl, by omega, by omega, by push_cast; omega, fun q hq => ?_, ?_⟩, ?_⟩
    · rw [e] at hq
      obtain rfl := Option.some.inj hq
      exact ⟨stepF_regs _ code X.s _ h.regs, by rw [hm]; exact stepped_ok h false, stepped_len h false, by show 0 ≤ (steppedF false code X).s.steps; omega, by show (steppedF false code X).s.steps ≤ _; omega⟩
    · have := known_next h hN hs
      unfold kwnM kwnB kwnS
      rw [e, hm]
      exact this
    · unfold kwnS
      rw [e, hs]
      exact a1
  | some q =>
    have e : Y.saved = some q := by rw [hsv]; unfold guessF; rw [hs]; rfl
    obtain ⟨c1, c2, c3, c4, c5⟩ := h.sav q hs
    refine ⟨⟨hr, by rw [hm]; exact h.mem, by rw [hm]; exact hb, hl, by omega, by omega, by push_cast; omega, fun q' hq => ?_, ?_⟩, ?_⟩
    · rw [e] at hq
      obtain rfl := Option.some.inj hq
      exact ⟨c1, by rw [hm]; exact c2, by omega, c4, by omega⟩
    · have := h.known
      unfold kwnM kwnB kwnS at this ⊢
      rw [hs] at this
      rw [e, hm]
      exact this
    · unfold kwnS
      rw [e, hs]
      exact Int.le_refl _
theorem ahead_ended (he : ¬ (aheadP code X).1.ended = true) : X.s.ended = false := by
  cases h : X.s.ended with
  | false => rfl
  | true =>
    exfalso
    apply he
    show (stepF (vF false) code X.s ⟨X.mem, X.buf⟩).1.ended = true
    rw [stepF_end _ _ _ _ h]
    exact h
theorem wrong_good (h : Inv code p N X) (hN : N ≤ 1000000) (sites : List Int) (win i0 i5 tq : Int) : Good code p (N + 1) X (wrongF code sites win i0 i5 tq X).1 := by
  unfold wrongF
  split
  · exact honest_good h hN
  · rename_i hc
    have he := ahead_ended (code := code) (X := X) (fun e => hc (.inl e))
    have h0 := h.st0
    have h1 := h.st1
    exact guess_good h hN win he _ rfl rfl rfl h.regs h.ok (by have := h.len; show X.buf.length ≤ N + 1; omega) (by show wrap64 (X.s.steps + 1) = X.s.steps + 1; exact w64 _ (by omega) (by omega))
theorem stale_good (h : Inv code p N X) (hN : N ≤ 1000000) (win : Int) : Good code p (N + 1) X (staleF code win X).1 := by
  unfold staleF
  split
  · exact honest_good h hN
  · rename_i hc
    have he := ahead_ended (code := code) (X := X) hc
    have h0 := h.st0
    have h1 := h.st1
    exact guess_good h hN win he _ rfl rfl rfl (stepF_regs _ code X.s _ h.regs) (stepped_ok h true) (stepped_len h true) (by
      show (stepF (vF true) code X.s ⟨X.mem, X.buf⟩).1.steps = X.s.steps + 1
      rw [stepF_kept _ _ _ _ he]
      exact w64 _ (by omega) (by omega))
theorem doN_good (h : Inv code p N X) (hN : N ≤ 1000000) (sites : List Int) (win deed tq : Int) : Good code p (N + 1) X (doN code sites win X deed tq).1 := by
  unfold doN
  split
  · exact honest_good h hN
  split
  · split
    · have := back_good h; exact ⟨this.1.le (Nat.le_succ _), this.2⟩
    · rename_i hs
      have h2 := commit_good h (by simpa using hs) 0
      exact h2.trans (honest_good h2.1 hN)
  split
  · exact wrong_good h hN sites win _ _ tq
  split
  · exact stale_good h hN win
  · exact honest_good h hN
theorem left_inv (h : Inv code p N X) (v : Int) : Inv code p N { X with left := v } := ⟨h.regs, h.mem, h.ok, h.len, h.cnt, h.st0, h.st1, h.sav, h.known⟩
theorem doM_good (h : Inv code p N X) (hN : N ≤ 1000000) (sites : List Int) (win deed tq : Int) : Good code p (N + 1) X (doM code sites win X deed tq).1 := by
  unfold doM
  split
  · exact ⟨h.le (Nat.le_succ _), Int.le_refl _⟩
  split
  · have := back_good h; exact ⟨this.1.le (Nat.le_succ _), this.2⟩
  split
  · exact doN_good (left_inv h _) hN sites win deed tq
  · exact doN_good h hN sites win deed tq
end
end Go.Proofs.Ytkgoljbimblkhaa.B
