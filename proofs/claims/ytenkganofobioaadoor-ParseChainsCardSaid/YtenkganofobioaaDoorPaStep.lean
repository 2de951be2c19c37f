/- Parsing: the small steps by their answers. -/
import Derived.Test.YtenkganofobioaaDoorPaBoth
namespace Go.Proofs.YtenkganofobioaaDoor.B
open Go.RowKit Go.Proofs.YtenkganofobioaaDoor.Mine Go.Proofs.YtenkganofobioaaDoor.Sep Go.Proofs.YtenkganofobioaaDoorW.PrintWords Go.Proofs.YtenkganofobioaaDoorW.PrintLast Go.Proofs.YtenkganofobioaaDoorW.PrintMore
set_option linter.unusedVariables false
set_option linter.unusedSimpArgs false
/-- The old world is among the parts. -/
def OldIn (W0 : World) (L : List Chunk) : Prop := ∃ io : Nat, L[io]? = some (old W0)
theorem OldIn.cons {W0 : World} {L : List Chunk} {c : Chunk} (h : OldIn W0 L) : OldIn W0 (c :: L) := by
  obtain ⟨io, h⟩ := h
  exact ⟨io + 1, by simpa using h⟩
theorem OldIn.gl {W0 w : World} {L : List Chunk} (h : OldIn W0 L) (hG : GL W0) (HS : Sat W0 w L) : GL w := by
  obtain ⟨io, h⟩ := h
  exact hG.below (HS.old io h)
/-- ExC with the old world somewhere. -/
def ExD (all : List TK) (f : FuncId) (xs : List Value) (p : PS → Option (EX × PS)) : Prop :=
  ∀ (W0 w : World) (L : List Chunk) (g : Nat) (A0 : Addr) (c0 : Nat) (s : PS) (e : EX) (s' : PS), GL W0 → OldIn W0 L → POk all s → p s = some (e, s') → Sat W0 w (psB g A0 c0 all.length s :: tkR A0 c0 all :: L) →
    Calls Tryd.prog f (Value.pointer (some ⟨g, 0, none⟩) :: xs).toArray w fun r w' => ∃ (A : Option Addr) (n c : Nat), r = .returned (.agg (exA e (.slice A n c)).toArray) ∧ Sat W0 w' (exV e (.slice A n c) :: psB g A0 c0 all.length s' :: tkR A0 c0 all :: L)
theorem ex_d {all : List TK} {f : FuncId} {xs : List Value} {p : PS → Option (EX × PS)} (h : ExC all f xs p) : ExD all f xs p := by
  intro W0 w L g A0 c0 s e s' hG ho hp he HS
  obtain ⟨io, hio⟩ := ho
  exact h W0 w L g A0 c0 io s e s' hG hio hp he HS
/-- The same of a function that answers expressions. -/
def ArD (all : List TK) (f : FuncId) (xs : List Value) (p : PS → Option (List EX × PS)) : Prop :=
  ∀ (W0 w : World) (L : List Chunk) (g : Nat) (A0 : Addr) (c0 : Nat) (s : PS) (e : List EX) (s' : PS), GL W0 → OldIn W0 L → POk all s → p s = some (e, s') → Sat W0 w (psB g A0 c0 all.length s :: tkR A0 c0 all :: L) →
    Calls Tryd.prog f (Value.pointer (some ⟨g, 0, none⟩) :: xs).toArray w fun r w' => ∃ (A : Option Addr) (n c : Nat), r = .returned (.slice A n c) ∧ Sat W0 w' (row k51 51 (.slice A n c) e :: psB g A0 c0 all.length s' :: tkR A0 c0 all :: L)
theorem ar_d {all : List TK} {f : FuncId} {xs : List Value} {p : PS → Option (List EX × PS)} (h : ArC all f xs p) : ArD all f xs p := by
  intro W0 w L g A0 c0 s e s' hG ho hp he HS
  obtain ⟨io, hio⟩ := ho
  exact h W0 w L g A0 c0 io s e s' hG hio hp he HS
/-- A function that answers statements. -/
def BlD (all : List TK) (f : FuncId) (xs : List Value) (p : PS → Option (List ST × PS)) : Prop :=
  ∀ (W0 w : World) (L : List Chunk) (g : Nat) (A0 : Addr) (c0 : Nat) (s : PS) (e : List ST) (s' : PS), GL W0 → OldIn W0 L → POk all s → p s = some (e, s') → Sat W0 w (psB g A0 c0 all.length s :: tkR A0 c0 all :: L) →
    Calls Tryd.prog f (Value.pointer (some ⟨g, 0, none⟩) :: xs).toArray w fun r w' => ∃ (A : Option Addr) (n c : Nat), r = .returned (.slice A n c) ∧ Sat W0 w' (row k45 45 (.slice A n c) e :: psB g A0 c0 all.length s' :: tkR A0 c0 all :: L)
/-- A statement's value, its three rows known as slices. -/
abbrev slv (v : Option Addr × Nat × Nat) : Value := .slice v.1 v.2.1 v.2.2
/-- A function that answers a statement. -/
def StD (all : List TK) (f : FuncId) (p : PS → Option (ST × PS)) : Prop :=
  ∀ (W0 w : World) (L : List Chunk) (g : Nat) (A0 : Addr) (c0 : Nat) (s : PS) (e : ST) (s' : PS), GL W0 → OldIn W0 L → POk all s → p s = some (e, s') → Sat W0 w (psB g A0 c0 all.length s :: tkR A0 c0 all :: L) →
    Calls Tryd.prog f #[.pointer (some ⟨g, 0, none⟩)] w fun r w' => ∃ (A B C : Option Addr) (a b c a' b' c' : Nat), r = .returned (.agg (stA e (.slice A a a') (.slice B b b') (.slice C c c')).toArray) ∧ Sat W0 w' (stV e (.slice A a a') (.slice B b b') (.slice C c c') :: psB g A0 c0 all.length s' :: tkR A0 c0 all :: L)
/-- A function that takes a statement without parts, and answers one. -/
def StE (all : List TK) (f : FuncId) (p : ST → PS → Option (ST × PS)) : Prop :=
  ∀ (W0 w : World) (L : List Chunk) (g : Nat) (A0 : Addr) (c0 : Nat) (at_ : S32) (s : PS) (e : ST) (s' : PS), GL W0 → OldIn W0 L → POk all s → p ⟨0, at_, bs [], [], [], []⟩ s = some (e, s') → Sat W0 w (psB g A0 c0 all.length s :: tkR A0 c0 all :: L) →
    Calls Tryd.prog f #[.pointer (some ⟨g, 0, none⟩), .agg #[.int .i64 0, .int .i64 at_.f0, .int .i64 at_.f1, .string ⟨#[]⟩, .slice none 0 0, .slice none 0 0, .slice none 0 0]] w fun r w' => ∃ (A B C : Option Addr) (a b c a' b' c' : Nat), r = .returned (.agg (stA e (.slice A a a') (.slice B b b') (.slice C c c')).toArray) ∧ Sat W0 w' (stV e (.slice A a a') (.slice B b b') (.slice C c c') :: psB g A0 c0 all.length s' :: tkR A0 c0 all :: L)
section
variable {W0 w : World} {L : List Chunk} {g : Nat} {A0 : Addr} {c0 : Nat} {all : List S71} {s : PS}
abbrev PTR (g : Nat) : Value := .pointer (some ⟨g, 0, none⟩)
theorem take_at (h : POk all s) {x : ByteArray} {b : Bool} (ht : (takeP s x).1 = b) (HS : Sat W0 w (psB g A0 c0 all.length s :: tkR A0 c0 all :: L)) :
    Calls Tryd.prog 23 #[.pointer (some ⟨g, 0, none⟩), .string x] w fun r w' => r = .returned (.bool b) ∧ Sat W0 w' (psB g A0 c0 all.length (takeP s x).2 :: tkR A0 c0 all :: L) := by
  have := take_callsP h HS x
  rw [ht] at this
  exact this
theorem take_same {x : ByteArray} (ht : (takeP s x).1 = false) : (takeP s x).2 = s := by
  unfold takeP at ht ⊢
  split
  · rfl
  · rename_i hn; rw [if_neg hn] at ht; cases ht
theorem take_no (h : POk all s) {x : ByteArray} (ht : (takeP s x).1 = false) (HS : Sat W0 w (psB g A0 c0 all.length s :: tkR A0 c0 all :: L)) :
    Calls Tryd.prog 23 #[.pointer (some ⟨g, 0, none⟩), .string x] w fun r w' => r = .returned (.bool false) ∧ Sat W0 w' (psB g A0 c0 all.length s :: tkR A0 c0 all :: L) := by
  have := take_callsP h HS x
  rw [ht, take_same ht] at this
  exact this
theorem is_at (h : POk all s) {x : ByteArray} {b : Bool} (ht : isP s x = b) (HS : Sat W0 w (psB g A0 c0 all.length s :: tkR A0 c0 all :: L)) :
    Calls Tryd.prog 43 #[.pointer (some ⟨g, 0, none⟩), .string x] w fun r w' => r = .returned (.bool b) ∧ Sat W0 w' (psB g A0 c0 all.length s :: tkR A0 c0 all :: L) := by
  have := is_calls h HS x
  rw [ht] at this
  exact this
theorem bad_at {b : Bool} (ht : badP s = b) (HS : Sat W0 w (psB g A0 c0 all.length s :: L)) :
    Calls Tryd.prog 21 #[.pointer (some ⟨g, 0, none⟩)] w fun r w' => r = .returned (.bool b) ∧ Sat W0 w' (psB g A0 c0 all.length s :: L) := by
  have := bad_calls HS
  rw [ht] at this
  exact this
theorem down_at (h : POk all s) {b : Bool} (ht : (downP s).1 = b) (HS : Sat W0 w (psB g A0 c0 all.length s :: tkR A0 c0 all :: L)) :
    Calls Tryd.prog 60 #[.pointer (some ⟨g, 0, none⟩)] w fun r w' => r = .returned (.bool b) ∧ Sat W0 w' (psB g A0 c0 all.length (downP s).2 :: tkR A0 c0 all :: L) := by
  have := down_callsP h HS
  rw [ht] at this
  exact this
end
end Go.Proofs.YtenkganofobioaaDoor.B
