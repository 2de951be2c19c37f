/- Parsing, in plain Lean: what every part of the parser keeps. -/
import Derived.Test.YtenkganofobioaaDoorPaTree
namespace Go.Proofs.YtenkganofobioaaDoor.B
open Go.RowKit Go.Proofs.YtenkganofobioaaDoor.Mine Go.Proofs.YtenkganofobioaaDoor.Sep Go.Proofs.YtenkganofobioaaDoorW.PrintWords Go.Proofs.YtenkganofobioaaDoorW.PrintLast Go.Proofs.YtenkganofobioaaDoorW.PrintMore
set_option linter.unusedVariables false
structure FKeep (all : List TK) (F : Fns) : Prop where
  whole : ∀ s e s', POk all s → F.whole s = some (e, s') → Keeps all s s'
  unary : ∀ s e s', POk all s → F.unary s = some (e, s') → Keeps all s s'
  block : ∀ s b s', POk all s → F.block s = some (b, s') → Keeps all s s'
  choice : ∀ s t u s', POk all s → F.choice t s = some (u, s') → Keeps all s s'
theorem pair_inj {α β : Type} {a b : α} {c d : β} (h : some (a, c) = some (b, d)) : a = b ∧ c = d := by
  simpa using h
theorem chain_keeps {all : List TK} {next : PS → Option (EX × PS)} (hn : ∀ s e s', POk all s → next s = some (e, s') → Keeps all s s') (lv : Nat) : ∀ (k : Nat) (e : EX) (s : PS) (e' : EX) (s' : PS), POk all s → chainP next lv k e s = some (e', s') → Keeps all s s'
  | 0, e, s, e', s', h, hc => by rw [chainP] at hc; cases hc
  | k + 1, e, s, e', s', h, hc => by
    rw [chainP] at hc
    split at hc
    · obtain ⟨rfl, rfl⟩ := pair_inj hc; exact .refl h
    · split at hc
      · obtain ⟨rfl, rfl⟩ := pair_inj hc; exact .refl h
      · split at hc
        · cases hc
        · rename_i r s2 hr
          have k1 := (Keeps.skip (.refl h)).trans (hn _ _ _ h.skip hr)
          split at hc
          · obtain ⟨rfl, rfl⟩ := pair_inj hc; exact k1
          · exact k1.trans (chain_keeps hn lv k _ _ _ _ k1.1 hc)
theorem expr_keeps {all : List TK} {F : Fns} (hF : FKeep all F) : ∀ (n : Nat) (s : PS) (e : EX) (s' : PS), POk all s → exprP F n s = some (e, s') → Keeps all s s'
  | 0, s, e, s', h, hc => hF.unary s e s' h hc
  | n + 1, s, e, s', h, hc => by
    rw [exprP] at hc
    split at hc
    · cases hc
    · rename_i e1 s1 h1
      have k1 := expr_keeps hF n s e1 s1 h h1
      exact k1.trans (chain_keeps (fun s e s' => expr_keeps hF n s e s') _ _ _ _ _ _ k1.1 hc)
theorem whole_keeps {all : List TK} {F : Fns} (hF : FKeep all F) (s : PS) (e : EX) (s' : PS) (h : POk all s) (hc : wholeP F s = some (e, s')) : Keeps all s s' := by
  unfold wholeP at hc
  split at hc
  · rename_i hd
    split at hc
    · cases hc
    · rename_i e1 s2 h1
      obtain ⟨rfl, rfl⟩ := pair_inj hc
      exact .down_up h hd (expr_keeps hF 5 _ _ _ h.down h1)
  · rename_i hd
    obtain ⟨rfl, rfl⟩ := pair_inj hc
    exact .down_not h (by simpa using hd)
theorem list_keeps {all : List TK} {wh : PS → Option (EX × PS)} (hw : ∀ s e s', POk all s → wh s = some (e, s') → Keeps all s s') (stop : List UInt8) : ∀ (k : Nat) (l : List EX) (s : PS) (l' : List EX) (s' : PS), POk all s → listP wh stop k l s = some (l', s') → Keeps all s s'
  | 0, l, s, l', s', h, hc => by rw [listP] at hc; cases hc
  | k + 1, l, s, l', s', h, hc => by
    rw [listP] at hc
    split at hc
    · split at hc
      · cases hc
      · rename_i e s2 h1
        have k0 : Keeps all s (if 0 < l.length then wantP s (bs [44]) else s) := by
          split
          · exact Keeps.want (.refl h) _
          · exact .refl h
        have k1 := k0.trans (hw _ _ _ k0.1 h1)
        exact k1.trans (list_keeps hw stop k _ _ _ _ k1.1 hc)
    · obtain ⟨rfl, rfl⟩ := pair_inj hc; exact .refl h
theorem args_keeps {all : List TK} {F : Fns} (hF : FKeep all F) (s : PS) (l : List EX) (s' : PS) (h : POk all s) (hc : argsP F s = some (l, s')) : Keeps all s s' := by
  unfold argsP at hc
  split at hc
  · cases hc
  · rename_i l1 s2 h1
    obtain ⟨rfl, rfl⟩ := pair_inj hc
    exact (list_keeps hF.whole _ _ _ _ _ _ h h1).want _
theorem primary_keeps {all : List TK} {F : Fns} (hF : FKeep all F) (p : S32) (s : PS) (e : EX) (s' : PS) (h : POk all s) (hc : primaryP F p s = some (e, s')) : Keeps all s s' := by
  have k0 : Keeps all s s := .refl h
  unfold primaryP at hc
  simp only at hc
  split at hc
  · obtain ⟨rfl, rfl⟩ := pair_inj hc; exact k0.skip
  split at hc
  · obtain ⟨rfl, rfl⟩ := pair_inj hc; exact k0.take _
  split at hc
  · obtain ⟨rfl, rfl⟩ := pair_inj hc; exact k0.take _
  split at hc
  · split at hc
    · cases hc
    · rename_i h1
      obtain ⟨rfl, rfl⟩ := pair_inj hc
      exact ((k0.take _).trans (hF.whole _ _ _ (k0.take _).1 h1)).want _
  split at hc
  · split at hc
    · cases hc
    · rename_i h1
      obtain ⟨rfl, rfl⟩ := pair_inj hc
      exact ((k0.name.take _).trans (hF.whole _ _ _ (k0.name.take _).1 h1)).want _
  split at hc
  · split at hc
    · cases hc
    · rename_i h1
      obtain ⟨rfl, rfl⟩ := pair_inj hc
      exact (k0.name.take _).trans (args_keeps hF _ _ _ (k0.name.take _).1 h1)
  · obtain ⟨rfl, rfl⟩ := pair_inj hc; exact k0.name
theorem unary_keeps {all : List TK} {F : Fns} (hF : FKeep all F) (s : PS) (e : EX) (s' : PS) (h : POk all s) (hc : unaryP F s = some (e, s')) : Keeps all s s' := by
  unfold unaryP at hc
  split at hc
  · obtain ⟨rfl, rfl⟩ := pair_inj hc; exact .refl h
  split at hc
  · split at hc
    · rename_i hd
      split at hc
      · cases hc
      · rename_i e1 s2 h1
        have k1 : Keeps all (downP s).2 s2 := (Keeps.skip (.refl h.down)).trans (hF.unary _ _ _ h.down.skip h1)
        split at hc
        · obtain ⟨rfl, rfl⟩ := pair_inj hc; exact .down_up h hd k1
        · obtain ⟨rfl, rfl⟩ := pair_inj hc; exact .down_up h hd k1
    · rename_i hd
      obtain ⟨rfl, rfl⟩ := pair_inj hc
      exact .down_not h (by simpa using hd)
  · exact primary_keeps hF _ _ _ _ h hc
theorem turn_keeps {all : List TK} {F : Fns} (hF : FKeep all F) (st : ST) (s : PS) (u : ST) (s' : PS) (h : POk all s) (hc : turnP F st s = some (u, s')) : Keeps all s s' := by
  unfold turnP at hc
  split at hc
  · cases hc
  · rename_i e1 s1 h1
    have k1 := hF.whole _ _ _ h h1
    split at hc
    · obtain ⟨rfl, rfl⟩ := pair_inj hc; exact k1
    split at hc
    · split at hc
      · cases hc
      · rename_i h2
        obtain ⟨rfl, rfl⟩ := pair_inj hc
        exact (k1.take _).trans (hF.whole _ _ _ (k1.take _).1 h2)
    split at hc
    · split at hc
      · cases hc
      · rename_i h2
        obtain ⟨rfl, rfl⟩ := pair_inj hc
        exact (k1.take _).trans (hF.whole _ _ _ (k1.take _).1 h2)
    split at hc
    · obtain ⟨rfl, rfl⟩ := pair_inj hc; exact k1
    · obtain ⟨rfl, rfl⟩ := pair_inj hc; exact k1.fail _
theorem semi_keeps {all : List TK} {s s1 : PS} {st u : ST} {s' : PS} (k : Keeps all s s1) (hc : semi (some (st, s1)) = some (u, s')) : Keeps all s s' := by
  unfold semi at hc
  obtain ⟨rfl, rfl⟩ := pair_inj hc
  exact k.want _
theorem stmt_keeps {all : List TK} {F : Fns} (hF : FKeep all F) (s : PS) (u : ST) (s' : PS) (h : POk all s) (hc : stmtP F s = some (u, s')) : Keeps all s s' := by
  have k0 : Keeps all s s := .refl h
  unfold stmtP at hc
  simp only at hc
  split at hc
  · split at hc
    · cases hc
    · rename_i h1
      have k1 := ((k0.take (bs [108, 101, 116])).name.want (bs [61]))
      exact semi_keeps (k1.trans (hF.whole _ _ _ k1.1 h1)) hc
  split at hc
  · exact (k0.take _).trans (hF.choice _ _ _ _ (k0.take _).1 hc)
  split at hc
  · split at hc
    · cases hc
    · rename_i h1
      have k1 := (k0.take _).trans (hF.whole _ _ _ (k0.take _).1 h1)
      split at hc
      · cases hc
      · rename_i h2
        obtain ⟨rfl, rfl⟩ := pair_inj hc
        exact k1.trans (hF.block _ _ _ k1.1 h2)
  split at hc
  · split at hc
    · cases hc
    · rename_i h1
      exact semi_keeps ((k0.take _).trans (hF.whole _ _ _ (k0.take _).1 h1)) hc
  · cases ht : turnP F ⟨0, (nowP s).f3, bs [], [], [], []⟩ s with
    | none => rw [ht] at hc; cases hc
    | some r =>
      obtain ⟨t1, s1⟩ := r
      rw [ht] at hc
      exact semi_keeps (turn_keeps hF _ _ _ _ h ht) hc
theorem choice_keeps {all : List TK} {F : Fns} (hF : FKeep all F) (s : PS) (st : ST) (u : ST) (s' : PS) (h : POk all s) (hc : choiceP F st s = some (u, s')) : Keeps all s s' := by
  unfold choiceP at hc
  split at hc
  · cases hc
  · rename_i e1 s1 h1
    have k1 := hF.whole _ _ _ h h1
    split at hc
    · cases hc
    · rename_i b s2 h2
      have k2 := k1.trans (hF.block _ _ _ k1.1 h2)
      simp only at hc
      split at hc
      · have k3 := k2.take (bs [101, 108, 115, 101])
        split at hc
        · have k4 := k3.take (bs [105, 102])
          split at hc
          · rename_i hd
            split at hc
            · cases hc
            · rename_i h5
              obtain ⟨rfl, rfl⟩ := pair_inj hc
              exact k4.trans (.down_up k4.1 hd (hF.choice _ _ _ _ k4.1.down h5))
          · rename_i hd
            obtain ⟨rfl, rfl⟩ := pair_inj hc
            exact k4.trans (.down_not k4.1 (by simpa using hd))
        · split at hc
          · cases hc
          · rename_i h5
            obtain ⟨rfl, rfl⟩ := pair_inj hc
            exact k3.trans (hF.block _ _ _ k3.1 h5)
      · obtain ⟨rfl, rfl⟩ := pair_inj hc; exact k2
theorem stmts_keeps {all : List TK} {F : Fns} (hF : FKeep all F) : ∀ (k : Nat) (l : List ST) (s : PS) (l' : List ST) (s' : PS), POk all s → stmtsP F k l s = some (l', s') → Keeps all s s'
  | 0, l, s, l', s', h, hc => by rw [stmtsP] at hc; cases hc
  | k + 1, l, s, l', s', h, hc => by
    rw [stmtsP] at hc
    split at hc
    · split at hc
      · cases hc
      · rename_i h1
        have k1 := stmt_keeps hF _ _ _ h h1
        exact k1.trans (stmts_keeps hF k _ _ _ _ k1.1 hc)
    · obtain ⟨rfl, rfl⟩ := pair_inj hc; exact .refl h
theorem block_keeps {all : List TK} {F : Fns} (hF : FKeep all F) (s : PS) (b : List ST) (s' : PS) (h : POk all s) (hc : blockP F s = some (b, s')) : Keeps all s s' := by
  have k1 : Keeps all s (wantP s (bs [123])) := Keeps.want (.refl h) _
  unfold blockP at hc
  simp only at hc
  split at hc
  · rename_i hd
    split at hc
    · cases hc
    · rename_i l s2 h1
      obtain ⟨rfl, rfl⟩ := pair_inj hc
      exact k1.trans (.down_up k1.1 hd ((stmts_keeps hF _ _ _ _ _ k1.1.down h1).want _))
  · rename_i hd
    obtain ⟨rfl, rfl⟩ := pair_inj hc
    exact k1.trans (.down_not k1.1 (by simpa using hd))
theorem fns_keep (all : List TK) : ∀ k : Nat, FKeep all (fnsF k)
  | 0 => {
    whole := fun s e s' _ hc => absurd (show (none : Option (EX × PS)) = some (e, s') from hc) (by simp)
    unary := fun s e s' _ hc => absurd (show (none : Option (EX × PS)) = some (e, s') from hc) (by simp)
    block := fun s b s' _ hc => absurd (show (none : Option (List ST × PS)) = some (b, s') from hc) (by simp)
    choice := fun s t u s' _ hc => absurd (show (none : Option (ST × PS)) = some (u, s') from hc) (by simp) }
  | k + 1 => ⟨fun s e s' h hc => whole_keeps (fns_keep all k) s e s' h hc, fun s e s' h hc => unary_keeps (fns_keep all k) s e s' h hc, fun s b s' h hc => block_keeps (fns_keep all k) s b s' h hc, fun s t u s' h hc => choice_keeps (fns_keep all k) s t u s' h hc⟩
theorem global_keeps {all : List TK} (kind : Int) (s : PS) (h : POk all s) : Keeps all s (globalP kind s).2 := by
  have k0 : Keeps all s s := .refl h
  unfold globalP
  simp only
  refine Keeps.want ?_ _
  split
  · refine Keeps.want ?_ _
    split
    · exact k0.name.take _
    split
    · exact (k0.name.take _).fail _
    split
    · exact (k0.name.take _).fail _
    · exact (k0.name.take _).skip
  · exact k0.name.take _
theorem names_keeps {all : List TK} : ∀ (k : Nat) (l : List ByteArray) (s : PS) (l' : List ByteArray) (s' : PS), POk all s → namesP k l s = some (l', s') → Keeps all s s'
  | 0, l, s, l', s', h, hc => by rw [namesP] at hc; cases hc
  | k + 1, l, s, l', s', h, hc => by
    rw [namesP] at hc
    split at hc
    · simp only at hc
      have k0 : Keeps all s (if 0 < l.length then wantP s (bs [44]) else s) := by
        split
        · exact Keeps.want (.refl h) _
        · exact .refl h
      exact k0.name.trans (names_keeps k _ _ _ _ k0.name.1 hc)
    · obtain ⟨rfl, rfl⟩ := pair_inj hc; exact .refl h
theorem function_keeps {all : List TK} {F : Fns} (hF : FKeep all F) (s : PS) (f : FU) (s' : PS) (h : POk all s) (hc : functionP F s = some (f, s')) : Keeps all s s' := by
  have k1 : Keeps all s (wantP (nameP s).2 (bs [40])) := (Keeps.name (.refl h)).want _
  unfold functionP at hc
  simp only at hc
  split at hc
  · cases hc
  · rename_i l s2 h1
    have k2 := (k1.trans (names_keeps _ _ _ _ _ k1.1 h1)).want (bs [41])
    split at hc
    · cases hc
    · rename_i b s3 h2
      obtain ⟨rfl, rfl⟩ := pair_inj hc
      exact k2.trans (hF.block _ _ _ k2.1 h2)
end Go.Proofs.YtenkganofobioaaDoor.B
