/- Worlds part by part: a struct's value with what lies behind it. -/
import Derived.Test.YtenkganofobioaaDoorSep4
namespace Go.Proofs.YtenkganofobioaaDoor.Sep
open Go.RowKit Go.Proofs.YtenkganofobioaaDoor.Mine Go.Proofs.YtenkganofobioaaDoorW.PrintWords Go.Proofs.YtenkganofobioaaDoorW.PrintLast Go.Proofs.YtenkganofobioaaDoorW.PrintMore
set_option linter.unusedVariables false
set_option linter.unusedSimpArgs false
/-- A value, its cells known, and the memory behind it its own. -/
def val {α : Type} (d : Kd α) (x : α) (cs : List Value) : Chunk where
  is := fun w s => d.M w 0 s x cs
  move := fun h hm => Kd.M_step h hm
  bound := fun h => d.M_mono (fun k hk => ⟨hk.1, hk.2.2.1⟩) (d.M_bound h)
  mono := fun h hs => d.M_mono hs h
section
variable {α β : Type} {W0 w : World} {L : List Chunk} {d : Kd α} {d2 : Kd β}
/-- A part is seen as another, the world as it was. -/
theorem Sat.turn {c c' : Chunk} (HS : Sat W0 w (c :: L)) (h : ∀ s, c.is w s → c'.is w s) : Sat W0 w (c' :: L) :=
  HS.upd 0 rfl (c' := c') fun s hs => ⟨⟨rfl, rfl, rfl, Nat.le_refl _, fun _ _ _ => rfl⟩, c'.mono (h s hs) (fun k hk => .inl hk)⟩
theorem val_len {x : α} {cs : List Value} (HS : Sat W0 w (val d x cs :: L)) : cs.length = d.sz := by
  obtain ⟨S, h, _⟩ := HS.open 0 rfl
  exact d.K_len (d.K_of_M h)
theorem val_K {x : α} {cs : List Value} (i : Nat) (HS : Sat W0 w L) (hi : L[i]? = some (val d x cs)) : d.K w x cs := by
  obtain ⟨S, h, _⟩ := HS.open i hi
  exact d.K_of_M h
theorem owns_lit {g e sz n : Nat} {cs : List Value} (hb : w.heap[g]? = some (.cells cs.toArray e (0, 0))) (hl : cs.length = n * sz) (hn : n ≤ 9223372036854775807) : w.ownsRow 0 e sz (.slice (some ⟨g, 0, none⟩) n n) n cs :=
  ⟨hl, .inr ⟨g, n, cs.toArray, rfl, Nat.zero_le _, hb, Nat.le_refl _, by simpa [maxLen] using hn, by simpa using hl, by simp [← hl]⟩⟩
theorem Sat.gather1 {g e : Nat} {x : α} {cs : List Value} (HS : Sat W0 w (Sep.blk g e cs.toArray :: val d x cs :: L)) : Sat W0 w (Sep.row d e (.slice (some ⟨g, 0, none⟩) 1 1) [x] :: L) := by
  have hl := val_len HS.tail
  refine HS.join.turn ?_
  rintro s ⟨s1, s2, h1, h2, u1, u2, dj⟩
  refine ⟨fun k hk => ?_, cs, owns_lit h1.1 (by omega) (by decide), ?_⟩
  · have : g = k := by simpa [Value.ownBlock] using hk
    subst this
    exact u1 _ h1.2
  · refine (Reps.none _ _).snoc (ps := []) (cs := []) ?_ hl
    refine d.M_mono (fun k hk => ⟨u2 k hk, fun e => ?_⟩) h2
    have : k = g := by simpa [Value.ownBlock] using e
    subst this
    exact dj _ h1.2 hk
theorem Sat.gather2 {g e : Nat} {x y : α} {cs ds : List Value} (HS : Sat W0 w (Sep.blk g e (cs ++ ds).toArray :: val d x cs :: val d y ds :: L)) : Sat W0 w (Sep.row d e (.slice (some ⟨g, 0, none⟩) 2 2) [x, y] :: L) := by
  have hl := val_len HS.tail
  have hl2 := val_len HS.tail.tail
  refine HS.join.join.turn ?_
  rintro s ⟨s12, s3, ⟨s1, s2, h1, h2, u1, u2, dj⟩, h3, v1, v2, dk⟩
  refine ⟨fun k hk => ?_, cs ++ ds, owns_lit h1.1 (by rw [List.length_append]; omega) (by decide), ?_⟩
  · have : g = k := by simpa [Value.ownBlock] using hk
    subst this
    exact v1 _ (u1 _ h1.2)
  · refine ((Reps.none _ _).snoc (ps := []) (cs := []) ?_ hl).snoc (ps := [x]) ?_ hl2
    · refine d.M_mono (fun k hk => ⟨v1 k (u2 k hk), fun e => ?_⟩) h2
      have : k = g := by simpa [Value.ownBlock] using e
      subst this
      exact dj _ h1.2 hk
    · refine d.M_mono (fun k hk => ⟨v2 k hk, fun e => ?_⟩) h3
      have : k = g := by simpa [Value.ownBlock] using e
      subst this
      exact dk _ (u1 _ h1.2) hk
end
end Go.Proofs.YtenkganofobioaaDoor.Sep
