/- Parsing, in plain Lean: the parser's state and its small steps. -/
import Derived.Test.YtenkganofobioaaDoorLxAll
namespace Go.Proofs.YtenkganofobioaaDoor.B
open Go.RowKit Go.Proofs.YtenkganofobioaaDoor.Mine Go.Proofs.YtenkganofobioaaDoor.Sep Go.Proofs.YtenkganofobioaaDoorW.PrintWords Go.Proofs.YtenkganofobioaaDoorW.PrintLast Go.Proofs.YtenkganofobioaaDoorW.PrintMore
set_option linter.unusedVariables false
set_option linter.unusedSimpArgs false
/-- A parser's state: the tokens that are left, how deep it is, its fault and where. -/
structure PS where
  ts : List S71
  deep : Int
  e : Int
  l : Int
  c : Int
def badP (s : PS) : Bool := s.e != 0
def nowP (s : PS) : S71 := s.ts.getD 0 z71
def isP (s : PS) (x : ByteArray) : Bool := ((nowP s).f0 == 3 || (nowP s).f0 == 4) && (nowP s).f1.data.toList == x.data.toList
def skipP (s : PS) : PS := if (nowP s).f0 = 0 then s else { s with ts := s.ts.tail }
def failP (s : PS) (n : Int) : PS := if s.e = 0 then { s with e := n, l := (nowP s).f3.f0, c := (nowP s).f3.f1 } else s
def takeP (s : PS) (x : ByteArray) : Bool × PS := if badP s || !isP s x then (false, s) else (true, skipP s)
def wantP (s : PS) (x : ByteArray) : PS := if (takeP s x).1 then (takeP s x).2 else failP (takeP s x).2 12
def nameP (s : PS) : ByteArray × PS := if badP s || (nowP s).f0 != 1 then (bs [], failP s 12) else ((nowP s).f1, skipP s)
def downP (s : PS) : Bool × PS := if badP s then (false, s) else if 200 ≤ s.deep then (false, failP s 13) else (true, { s with deep := s.deep + 1 })
def upP (s : PS) : PS := { s with deep := s.deep - 1 }
/-- The parser is sound: its tokens are the last of all. -/
structure POk (all : List S71) (s : PS) : Prop where
  suf : ∃ k, k < all.length ∧ s.ts = all.drop k
  ends : ∃ us t, all = us ++ [t] ∧ t.f0 = 0
  few : all.length ≤ 65537
  d0 : 0 ≤ s.deep
  d1 : s.deep ≤ 200
theorem allP_ends : ∀ (k : Nat) (r : List UInt8) (l c : Int) (ts : List S71), allP k r l c = some (.inl ts) → ∃ us t, ts = us ++ [t] ∧ t.f0 = 0
  | 0, r, l, c, ts, h => by rw [allP] at h; cases h
  | k + 1, r, l, c, ts, h => by
    rw [allP_succ] at h
    cases hn : nextP r l c with
    | err e n => rw [hn] at h; simp at h
    | tok t n =>
      rw [hn] at h
      simp only at h
      by_cases h0 : t.f0 = 0
      · rw [if_pos h0] at h
        simp only [Option.some.injEq, Sum.inl.injEq] at h
        exact ⟨[], t, h.symm, h0⟩
      · rw [if_neg h0] at h
        cases hr : allP k (r.drop n) (posA l c (r.take n)).1 (posA l c (r.take n)).2 with
        | none => rw [hr] at h; cases h
        | some y =>
          rw [hr] at h
          cases y with
          | inr e => simp [preT] at h
          | inl us =>
            simp only [preT, Option.some.injEq, Sum.inl.injEq] at h
            obtain ⟨vs, t2, e1, e2⟩ := allP_ends k _ _ _ us hr
            exact ⟨t :: vs, t2, by rw [← h, e1]; rfl, e2⟩
theorem POk.len {all : List S71} {s : PS} (h : POk all s) : 1 ≤ s.ts.length ∧ s.ts.length ≤ all.length := by
  obtain ⟨k, h1, h2⟩ := h.suf
  rw [h2, List.length_drop]
  omega
theorem POk.drop {all : List S71} {s : PS} (h : POk all s) : s.ts = all.drop (all.length - s.ts.length) := by
  obtain ⟨k, h1, h2⟩ := h.suf
  rw [h2, List.length_drop]
  congr 1
  omega
theorem POk.two {all : List S71} {s : PS} (h : POk all s) (h0 : (nowP s).f0 ≠ 0) : 2 ≤ s.ts.length := by
  obtain ⟨k, h1, h2⟩ := h.suf
  obtain ⟨us, t, h3, h4⟩ := h.ends
  by_cases hk : k = us.length
  · refine absurd ?_ h0
    unfold nowP
    rw [h2, h3, hk, List.drop_left]
    exact h4
  · rw [h2, List.length_drop]
    rw [h3, List.length_append, List.length_singleton] at h1 ⊢
    omega
theorem POk.skip {all : List S71} {s : PS} (h : POk all s) : POk all (skipP s) := by
  unfold skipP
  by_cases h0 : (nowP s).f0 = 0
  · rw [if_pos h0]; exact h
  · rw [if_neg h0]
    refine ⟨?_, h.ends, h.few, h.d0, h.d1⟩
    have h2 := h.two h0
    obtain ⟨k, h3, h4⟩ := h.suf
    refine ⟨k + 1, ?_, ?_⟩
    · rw [h4, List.length_drop] at h2; omega
    · show s.ts.tail = _
      rw [h4, List.tail_drop]
theorem POk.fail {all : List S71} {s : PS} (h : POk all s) (n : Int) : POk all (failP s n) := by
  unfold failP
  split
  · exact ⟨h.suf, h.ends, h.few, h.d0, h.d1⟩
  · exact h
theorem POk.take {all : List S71} {s : PS} (h : POk all s) (x : ByteArray) : POk all (takeP s x).2 := by
  unfold takeP
  split
  · exact h
  · exact h.skip
theorem POk.want {all : List S71} {s : PS} (h : POk all s) (x : ByteArray) : POk all (wantP s x) := by
  unfold wantP
  split
  · exact h.take x
  · exact (h.take x).fail 12
theorem POk.name {all : List S71} {s : PS} (h : POk all s) : POk all (nameP s).2 := by
  unfold nameP
  split
  · exact h.fail 12
  · exact h.skip
theorem POk.down {all : List S71} {s : PS} (h : POk all s) : POk all (downP s).2 := by
  unfold downP
  split
  · exact h
  · split
    · exact h.fail 13
    · exact ⟨h.suf, h.ends, h.few, by show 0 ≤ s.deep + 1; have := h.d0; omega, by show s.deep + 1 ≤ 200; omega⟩
/-- The parser's own block, and all tokens. -/
abbrev psB (g : Nat) (A0 : Addr) (c0 N : Nat) (s : PS) : Chunk := blk g 68 #[.slice (some (A0.add ((N - s.ts.length) * 5))) s.ts.length (c0 - (N - s.ts.length)), .int .i64 s.deep, .int .i64 s.e, .int .i64 s.l, .int .i64 s.c]
abbrev tkR (A0 : Addr) (c0 : Nat) (all : List S71) : Chunk := row k71 71 (.slice (some A0) all.length c0) all
theorem addr_zero (A : Addr) : A.add 0 = A := by
  unfold Addr.add
  split <;> simp_all
/-- The token that stands first, in memory. -/
theorem tok_at {W0 w : World} {L : List Chunk} {A0 : Addr} {c0 : Nat} {all : List S71} {s : PS} (h : POk all s) (HS : Sat W0 w L) (i : Nat) (hi : L[i]? = some (tkR A0 c0 all)) :
    all.length ≤ c0 ∧ Kd.C k71 w (some (A0.add ((all.length - s.ts.length) * 5))) s.ts.length s.ts := by
  have hc := HS.cap i hi
  have hC := HS.C i hi
  have hl := h.len
  refine ⟨hc.2, ?_⟩
  have := Kd.C_drop (m := all.length - s.ts.length) (c := c0) hC (by omega) hc.2
  rw [if_neg (by omega), ← h.drop] at this
  exact this
end Go.Proofs.YtenkganofobioaaDoor.B
