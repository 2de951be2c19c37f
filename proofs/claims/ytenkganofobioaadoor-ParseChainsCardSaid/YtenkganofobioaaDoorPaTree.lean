/- Parsing: trees as values with what lies behind them. -/
import Derived.Test.YtenkganofobioaaDoorPaPrim3
import Derived.Test.YtenkganofobioaaDoorPaVal
namespace Go.Proofs.YtenkganofobioaaDoor.B
open Go.RowKit Go.Proofs.YtenkganofobioaaDoor.Mine Go.Proofs.YtenkganofobioaaDoor.Sep Go.Proofs.YtenkganofobioaaDoorW.PrintWords Go.Proofs.YtenkganofobioaaDoorW.PrintLast Go.Proofs.YtenkganofobioaaDoorW.PrintMore
set_option linter.unusedVariables false
set_option linter.unusedSimpArgs false
/-- An expression's cells, by its row of kids. -/
abbrev exA (x : EX) (v : Value) : List Value := [.int .i64 x.f0, .int .i64 x.f1.f0, .int .i64 x.f1.f1, .int .i64 x.f2, .string x.f3, .int .i64 x.f4, v]
abbrev stA (x : ST) (v4 v5 v6 : Value) : List Value := [.int .i64 x.f0, .int .i64 x.f1.f0, .int .i64 x.f1.f1, .string x.f2, v4, v5, v6]
abbrev exV (x : EX) (v : Value) : Chunk := val k51 x (exA x v)
abbrev stV (x : ST) (v4 v5 v6 : Value) : Chunk := val k45 x (stA x v4 v5 v6)
theorem ex_of_row {W0 w : World} {L : List Chunk} (x : EX) {v : Value} (HS : Sat W0 w (row k51 51 v x.f5 :: L)) : Sat W0 w (exV x v :: L) :=
  HS.turn fun s h => k51_mkM w 0 s x h
theorem row_of_ex {W0 w : World} {L : List Chunk} (x : EX) {v : Value} (HS : Sat W0 w (exV x v :: L)) : Sat W0 w (row k51 51 v x.f5 :: L) :=
  HS.turn fun s h => by
    obtain ⟨v6, e, hr⟩ := k51_openM h
    simp only [exA, List.cons.injEq, and_true, true_and] at e
    subst e
    exact hr
theorem ex_none {W0 w : World} {L : List Chunk} (x : EX) (h0 : x.f5 = []) (HS : Sat W0 w L) : Sat W0 w (exV x (.slice none 0 0) :: L) := by
  have h := HS.nil k51 51
  rw [← h0] at h
  exact ex_of_row x h
theorem st_of_rows {W0 w : World} {L : List Chunk} (x : ST) {v4 v5 v6 : Value} (HS : Sat W0 w (row k51 51 v4 x.f3 :: row k45 45 v5 x.f4 :: row k45 45 v6 x.f5 :: L)) : Sat W0 w (stV x v4 v5 v6 :: L) :=
  HS.join.join.turn (by
    rintro s ⟨s12, s3, ⟨s1, s2, h1, h2, u1, u2, dj⟩, h3, v1, v2, dk⟩
    exact k45_mkM w 0 s x (Kd.R_mono h1 fun k hk => v1 k (u1 k hk)) (Kd.R_mono h2 fun k hk => v1 k (u2 k hk)) (Kd.R_mono h3 v2))
/-- A row of one expression in its own block. -/
theorem row_one {W0 w : World} {L : List Chunk} {g : Nat} (x : EX) {v : Value} (HS : Sat W0 w (blk g 51 (exA x v).toArray :: exV x v :: L)) : Sat W0 w (row k51 51 (.slice (some ⟨g, 0, none⟩) 1 1) [x] :: L) := HS.gather1
theorem row_two {W0 w : World} {L : List Chunk} {g : Nat} (x y : EX) {v u : Value} (HS : Sat W0 w (blk g 51 (exA x v ++ exA y u).toArray :: exV x v :: exV y u :: L)) : Sat W0 w (row k51 51 (.slice (some ⟨g, 0, none⟩) 2 2) [x, y] :: L) := HS.gather2
theorem row_st {W0 w : World} {L : List Chunk} {g : Nat} (x : ST) {v4 v5 v6 : Value} (HS : Sat W0 w (blk g 45 (stA x v4 v5 v6).toArray :: stV x v4 v5 v6 :: L)) : Sat W0 w (row k45 45 (.slice (some ⟨g, 0, none⟩) 1 1) [x] :: L) := HS.gather1
theorem PS.eta_deep (s : PS) : upP { s with deep := s.deep + 1 } = s := by
  cases s
  simp [upP]
/-- What every part of the parser keeps. -/
def Keeps (all : List TK) (s s' : PS) : Prop := POk all s' ∧ s'.deep = s.deep
theorem skip_deep (s : PS) : (skipP s).deep = s.deep := by unfold skipP; split <;> rfl
theorem fail_deep (s : PS) (n : Int) : (failP s n).deep = s.deep := by unfold failP; split <;> rfl
theorem take_deep (s : PS) (x : ByteArray) : (takeP s x).2.deep = s.deep := by
  unfold takeP
  split
  · rfl
  · exact skip_deep s
theorem want_deep (s : PS) (x : ByteArray) : (wantP s x).deep = s.deep := by
  unfold wantP
  split
  · exact take_deep s x
  · rw [fail_deep]; exact take_deep s x
theorem name_deep (s : PS) : (nameP s).2.deep = s.deep := by
  unfold nameP
  split
  · exact fail_deep s 12
  · exact skip_deep s
theorem down_deep {s : PS} (h : (downP s).1 = true) : (downP s).2.deep = s.deep + 1 := by
  unfold downP at h ⊢
  split
  · rename_i hb; rw [if_pos hb] at h; cases h
  · rename_i hb
    rw [if_neg hb] at h
    split
    · rename_i hk; rw [if_pos hk] at h; cases h
    · rfl
theorem down_deep' {s : PS} (h : (downP s).1 = false) : (downP s).2.deep = s.deep := by
  unfold downP at h ⊢
  split
  · rfl
  · rename_i hb
    rw [if_neg hb] at h
    split
    · exact fail_deep s 13
    · rename_i hk; rw [if_neg hk] at h; cases h
theorem Keeps.refl {all : List TK} {s : PS} (h : POk all s) : Keeps all s s := ⟨h, rfl⟩
theorem Keeps.trans {all : List TK} {s s' s'' : PS} (h : Keeps all s s') (h2 : Keeps all s' s'') : Keeps all s s'' := ⟨h2.1, h2.2.trans h.2⟩
theorem Keeps.skip {all : List TK} {s s' : PS} (h : Keeps all s s') : Keeps all s (skipP s') := ⟨h.1.skip, (skip_deep s').trans h.2⟩
theorem Keeps.fail {all : List TK} {s s' : PS} (h : Keeps all s s') (n : Int) : Keeps all s (failP s' n) := ⟨h.1.fail n, (fail_deep s' n).trans h.2⟩
theorem Keeps.take {all : List TK} {s s' : PS} (h : Keeps all s s') (x : ByteArray) : Keeps all s (takeP s' x).2 := ⟨h.1.take x, (take_deep s' x).trans h.2⟩
theorem Keeps.want {all : List TK} {s s' : PS} (h : Keeps all s s') (x : ByteArray) : Keeps all s (wantP s' x) := ⟨h.1.want x, (want_deep s' x).trans h.2⟩
theorem Keeps.name {all : List TK} {s s' : PS} (h : Keeps all s s') : Keeps all s (nameP s').2 := ⟨h.1.name, (name_deep s').trans h.2⟩
/-- Down, something that keeps, and up again. -/
theorem Keeps.down_up {all : List TK} {s s2 : PS} (h : POk all s) (hd : (downP s).1 = true) (h2 : Keeps all (downP s).2 s2) : Keeps all s (upP s2) := by
  have e := h2.2
  rw [down_deep hd] at e
  refine ⟨⟨h2.1.suf, h2.1.ends, h2.1.few, ?_, ?_⟩, ?_⟩
  · show 0 ≤ s2.deep - 1; have := h.d0; omega
  · show s2.deep - 1 ≤ 200; have := h.d1; omega
  · show s2.deep - 1 = s.deep; omega
theorem Keeps.down_not {all : List TK} {s : PS} (h : POk all s) (hd : (downP s).1 = false) : Keeps all s (downP s).2 := ⟨h.down, down_deep' hd⟩
end Go.Proofs.YtenkganofobioaaDoor.B
