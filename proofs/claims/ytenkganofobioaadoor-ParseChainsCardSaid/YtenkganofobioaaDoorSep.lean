/- Worlds part by part: what stands in memory, each part on blocks of its own. -/
import Derived.Test.YtenkganofobioaaDoorMine
namespace Go.Proofs.YtenkganofobioaaDoor.Sep
open Go.RowKit Go.Proofs.YtenkganofobioaaDoor.Mine Go.Proofs.YtenkganofobioaaDoorW.PrintWords Go.Proofs.YtenkganofobioaaDoorW.PrintLast Go.Proofs.YtenkganofobioaaDoorW.PrintMore
set_option linter.unusedVariables false
set_option linter.unusedSimpArgs false

/-- A part of memory: what it says, and the blocks that it may stand on. -/
structure Chunk where
  is : World → (Nat → Prop) → Prop
  move : ∀ {w w1 : World} {s : Nat → Prop}, is w s → (∀ k, s k → k < w.heap.size → w1.heap[k]? = w.heap[k]?) → is w1 s
  bound : ∀ {w : World} {s : Nat → Prop}, is w s → is w (fun k => s k ∧ k < w.heap.size)
  mono : ∀ {w : World} {s s' : Nat → Prop}, is w s → (∀ k, s k → s' k) → is w s'
/-- A block that is known whole. -/
def blk (g : Nat) (t : TypeId) (cs : Array Value) : Chunk where
  is := fun w s => w.heap[g]? = some (.cells cs t (0, 0)) ∧ s g
  move := fun h hm => ⟨(hm _ h.2 (blk_lt h.1)).trans h.1, h.2⟩
  bound := fun h => ⟨h.1, h.2, blk_lt h.1⟩
  mono := fun h hs => ⟨h.1, hs _ h.2⟩
/-- A row of the call's own. -/
def row {α : Type} (d : Kd α) (e : Nat) (v : Value) (xs : List α) : Chunk where
  is := fun w s => d.R e w 0 s v xs
  move := fun h hm => Kd.R_step h hm
  bound := fun h => Kd.R_mono (Kd.R_bound h) (fun k hk => ⟨hk.1, hk.2.2.1⟩)
  mono := fun h hs => Kd.R_mono h hs
/-- All that was there at w0, as it was. -/
def old (w0 : World) : Chunk where
  is := fun w s => ∀ k, k < w0.heap.size → s k ∧ k < w.heap.size ∧ w.heap[k]? = w0.heap[k]?
  move := fun {w w1 s} h hm k hk => by
    obtain ⟨h1, h2, h3⟩ := h k hk
    have h4 := hm k h1 h2
    refine ⟨h1, ?_, h4.trans h3⟩
    rw [h3, Array.getElem?_eq_getElem hk] at h4
    exact (Array.getElem?_eq_some_iff.1 h4).1
  bound := fun h k hk => ⟨⟨(h k hk).1, (h k hk).2.1⟩, (h k hk).2⟩
  mono := fun h hs k hk => ⟨hs k (h k hk).1, (h k hk).2⟩
/-- Two parts as one. -/
def two (a b : Chunk) : Chunk where
  is := fun w s => ∃ s1 s2, a.is w s1 ∧ b.is w s2 ∧ (∀ k, s1 k → s k) ∧ (∀ k, s2 k → s k) ∧ (∀ k, s1 k → s2 k → False)
  move := by
    rintro w w1 s ⟨s1, s2, h1, h2, h3, h4, h5⟩ hm
    exact ⟨s1, s2, a.move h1 (fun k hk hl => hm k (h3 k hk) hl), b.move h2 (fun k hk hl => hm k (h4 k hk) hl), h3, h4, h5⟩
  bound := by
    rintro w s ⟨s1, s2, h1, h2, h3, h4, h5⟩
    exact ⟨_, _, a.bound h1, b.bound h2, fun k hk => ⟨h3 k hk.1, hk.2⟩, fun k hk => ⟨h4 k hk.1, hk.2⟩, fun k hk hk' => h5 k hk.1 hk'.1⟩
  mono := by
    rintro w s s' ⟨s1, s2, h1, h2, h3, h4, h5⟩ hs
    exact ⟨s1, s2, h1, h2, fun k hk => hs k (h3 k hk), fun k hk => hs k (h4 k hk), h5⟩
/-- Nothing. -/
def emp : Chunk where
  is := fun _ _ => True
  move := fun _ _ => trivial
  bound := fun _ => trivial
  mono := fun _ _ => trivial

structure Sat (W0 w : World) (L : List Chunk) : Prop where
  os : w.os = W0.os
  tape : w.tape = W0.tape
  output : w.output = W0.output
  size : W0.heap.size ≤ w.heap.size
  fps : ∃ F : Nat → Nat → Prop, (∀ (i : Nat) (c : Chunk), L[i]? = some c → c.is w (F i)) ∧ (∀ i j k, F i k → F j k → i = j)
/-- From w to w1 nothing but the blocks in s was turned. -/
structure But (w w1 : World) (s : Nat → Prop) : Prop where
  os : w1.os = w.os
  tape : w1.tape = w.tape
  output : w1.output = w.output
  size : w.heap.size ≤ w1.heap.size
  block : ∀ k, k < w.heap.size → ¬ s k → w1.heap[k]? = w.heap[k]?
section
variable {W0 w w1 : World} {L : List Chunk}
theorem Sat.start (w : World) : Sat w w [old w] :=
  ⟨rfl, rfl, rfl, Nat.le_refl _, fun i _ => i = 0, fun i c hi => by
    cases i with
    | zero => obtain rfl := Option.some.inj hi; exact fun k hk => ⟨rfl, hk, rfl⟩
    | succ i => simp at hi, fun i j k hi hj => hi.trans hj.symm⟩
theorem Sat.open (HS : Sat W0 w L) (i : Nat) {c : Chunk} (hi : L[i]? = some c) :
    ∃ s : Nat → Prop, c.is w s ∧ (∀ k, s k → k < w.heap.size) ∧ ∀ (w1 : World) (c' : Chunk), But w w1 s → c'.is w1 (fun k => s k ∨ w.heap.size ≤ k) → Sat W0 w1 (L.set i c') := by
  obtain ⟨h1, h2, h3, h4, F, hF, hD⟩ := HS
  refine ⟨fun k => F i k ∧ k < w.heap.size, c.bound (hF i c hi), fun k hk => hk.2, fun w1 c' hb hc => ?_⟩
  refine ⟨hb.os.trans h1, hb.tape.trans h2, hb.output.trans h3, Nat.le_trans h4 hb.size, fun j k => (j = i ∧ ((F i k ∧ k < w.heap.size) ∨ w.heap.size ≤ k)) ∨ (j ≠ i ∧ F j k ∧ k < w.heap.size), fun j cj hj => ?_, fun j j' k hj hj' => ?_⟩
  · by_cases e : j = i
    · subst e
      have hlt : j < L.length := (List.getElem?_eq_some_iff.1 hi).1
      rw [List.getElem?_set_self hlt] at hj
      obtain rfl := Option.some.inj hj
      exact c'.mono hc (fun k hk => .inl ⟨rfl, hk⟩)
    · rw [List.getElem?_set_ne (fun h => e h.symm)] at hj
      have hcj := cj.move (w1 := w1) (cj.bound (hF j cj hj)) (fun k hk hl => hb.block k hl (fun hs => e (hD j i k hk.1 hs.1)))
      exact cj.mono hcj (fun k hk => .inr ⟨e, hk⟩)
  · rcases hj with ⟨e, hj⟩ | ⟨e, hj⟩ <;> rcases hj' with ⟨e', hj'⟩ | ⟨e', hj'⟩
    · rw [e, e']
    · rcases hj with hj | hj
      · rw [e]; exact hD _ _ _ hj.1 hj'.1
      · omega
    · rcases hj' with hj' | hj'
      · rw [e']; exact hD _ _ _ hj.1 hj'.1
      · omega
    · exact hD _ _ _ hj.1 hj'.1
theorem Sat.upd (HS : Sat W0 w L) (i : Nat) {c c' : Chunk} (hi : L[i]? = some c) (h : ∀ s, c.is w s → But w w1 s ∧ c'.is w1 (fun k => s k ∨ w.heap.size ≤ k)) : Sat W0 w1 (L.set i c') := by
  obtain ⟨s, hc, _, hp⟩ := HS.open i hi
  exact hp _ _ (h s hc).1 (h s hc).2
theorem But.below (hb : Below w.heap.size w w1) : But w w1 (fun _ => False) := ⟨hb.os, hb.tape, hb.output, hb.size, fun k hk _ => hb.block k hk⟩
/-- A call, or an event, that left all that was there. -/
theorem Sat.below (HS : Sat W0 w L) (hb : Below w.heap.size w w1) : Sat W0 w1 L := by
  obtain ⟨h1, h2, h3, h4, F, hF, hD⟩ := HS
  exact ⟨hb.os.trans h1, hb.tape.trans h2, hb.output.trans h3, Nat.le_trans h4 hb.size, fun j k => F j k ∧ k < w.heap.size,
    fun j cj hj => cj.move (cj.bound (hF j cj hj)) (fun k hk hl => hb.block k hl), fun j j' k hj hj' => hD _ _ _ hj.1 hj'.1⟩
/-- The same, and something new. -/
theorem Sat.new (HS : Sat W0 w L) (hb : Below w.heap.size w w1) {c : Chunk} (hc : c.is w1 (fun k => w.heap.size ≤ k)) : Sat W0 w1 (c :: L) := by
  obtain ⟨h1, h2, h3, h4, F, hF, hD⟩ := HS
  refine ⟨hb.os.trans h1, hb.tape.trans h2, hb.output.trans h3, Nat.le_trans h4 hb.size, fun j k => match j with | 0 => w.heap.size ≤ k | j + 1 => F j k ∧ k < w.heap.size, fun j cj hj => ?_, fun j j' k hj hj' => ?_⟩
  · cases j with
    | zero => obtain rfl := Option.some.inj hj; exact hc
    | succ j =>
      have hj' : L[j]? = some cj := by simpa using hj
      exact cj.move (cj.bound (hF j cj hj')) (fun k hk hl => hb.block k hl)
  · cases j with
    | zero =>
      cases j' with
      | zero => rfl
      | succ j' => have a : w.heap.size ≤ k := hj; have b : F j' k ∧ k < w.heap.size := hj'; omega
    | succ j =>
      cases j' with
      | zero => have a : w.heap.size ≤ k := hj'; have b : F j k ∧ k < w.heap.size := hj; omega
      | succ j' =>
        have a : F j k ∧ k < w.heap.size := hj
        have b : F j' k ∧ k < w.heap.size := hj'
        rw [hD _ _ _ a.1 b.1]
/-- Other parts, or the same in another order: L' is L at the places f. -/
theorem Sat.pick (HS : Sat W0 w L) (f : List Nat) (hf : f.Nodup) : Sat W0 w (f.map fun i => (L[i]?).getD emp) := by
  obtain ⟨h1, h2, h3, h4, F, hF, hD⟩ := HS
  refine ⟨h1, h2, h3, h4, fun j k => ∃ i, f[j]? = some i ∧ F i k ∧ i < L.length, fun j cj hj => ?_, fun j j' k hj hj' => ?_⟩
  · rw [List.getElem?_map] at hj
    cases e : f[j]? with
    | none => rw [e] at hj; simp at hj
    | some i =>
      rw [e] at hj
      simp only [Option.map_some, Option.some.injEq] at hj
      cases e2 : L[i]? with
      | none => rw [e2] at hj; simp only [Option.getD_none] at hj; subst hj; trivial
      | some c =>
        rw [e2] at hj
        simp only [Option.getD_some] at hj
        subst hj
        exact c.mono (hF i c e2) (fun k hk => ⟨i, e, hk, (List.getElem?_eq_some_iff.1 e2).1⟩)
  · obtain ⟨i, hi, hk, _⟩ := hj
    obtain ⟨i', hi', hk', _⟩ := hj'
    obtain rfl := hD _ _ _ hk hk'
    obtain ⟨l1, e1⟩ := List.getElem?_eq_some_iff.1 hi
    obtain ⟨l2, e2⟩ := List.getElem?_eq_some_iff.1 hi'
    exact (List.getElem_inj hf).1 (e1.trans e2.symm)
/-- The same parts at other places. -/
theorem Sat.reindex {L' : List Chunk} (HS : Sat W0 w L) (f : Nat → Nat) (hf : ∀ i j, f i = f j → i = j) (h : ∀ j c, L'[j]? = some c → L[f j]? = some c) : Sat W0 w L' := by
  obtain ⟨h1, h2, h3, h4, F, hF, hD⟩ := HS
  exact ⟨h1, h2, h3, h4, fun j => F (f j), fun j cj hj => hF _ cj (h j cj hj), fun j j' k hj hj' => hf _ _ (hD _ _ _ hj hj')⟩
/-- The i-th part comes to the front. -/
theorem Sat.front (HS : Sat W0 w L) (i : Nat) {c : Chunk} (hi : L[i]? = some c) : Sat W0 w (c :: L.eraseIdx i) := by
  refine HS.reindex (fun j => match j with | 0 => i | j + 1 => if j < i then j else j + 1) (fun a b hab => ?_) (fun j d hj => ?_)
  · match a, b with
    | 0, 0 => rfl
    | 0, b + 1 => dsimp only at hab; split at hab <;> omega
    | a + 1, 0 => dsimp only at hab; split at hab <;> omega
    | a + 1, b + 1 => dsimp only at hab; split at hab <;> split at hab <;> omega
  · match j with
    | 0 => obtain rfl := Option.some.inj hj; exact hi
    | j + 1 =>
      have hj' : (L.eraseIdx i)[j]? = some d := by simpa using hj
      rw [List.getElem?_eraseIdx] at hj'
      dsimp only
      split at hj' <;> rename_i h
      · rw [if_pos h]; exact hj'
      · rw [if_neg h]; exact hj'
/-- The first part goes to the i-th place. -/
theorem Sat.insert {c : Chunk} (HS : Sat W0 w (c :: L)) (i : Nat) (hi : i ≤ L.length) : Sat W0 w (L.take i ++ c :: L.drop i) := by
  refine HS.reindex (fun j => if j = i then 0 else if j < i then j + 1 else j) (fun a b hab => ?_) (fun j d hj => ?_)
  · split at hab <;> split at hab <;> (try split at hab) <;> (try split at hab) <;> omega
  · have hl : (L.take i).length = i := by rw [List.length_take]; omega
    by_cases e : j = i
    · subst e
      rw [List.getElem?_append_right (by omega), hl, Nat.sub_self] at hj
      rw [if_pos rfl]
      exact hj
    · rw [if_neg e]
      by_cases e2 : j < i
      · rw [if_pos e2]
        rw [List.getElem?_append_left (by omega), List.getElem?_take, if_pos e2] at hj
        simpa using hj
      · rw [if_neg e2]
        rw [List.getElem?_append_right (by omega), hl] at hj
        obtain ⟨q, hq⟩ : ∃ q, j - i = q + 1 := ⟨j - i - 1, by omega⟩
        rw [hq, List.getElem?_cons_succ, List.getElem?_drop] at hj
        obtain ⟨r, rfl⟩ : ∃ r, j = r + 1 := ⟨j - 1, by omega⟩
        rw [List.getElem?_cons_succ]
        rw [show i + q = r by omega] at hj
        exact hj
theorem Sat.tail {c : Chunk} (HS : Sat W0 w (c :: L)) : Sat W0 w L := by
  obtain ⟨h1, h2, h3, h4, F, hF, hD⟩ := HS
  exact ⟨h1, h2, h3, h4, fun j => F (j + 1), fun j cj hj => hF (j + 1) cj (by simpa using hj), fun j j' k hj hj' => by have := hD _ _ _ hj hj'; omega⟩
theorem Sat.erase (HS : Sat W0 w L) (i : Nat) : Sat W0 w (L.eraseIdx i) := by
  cases h : L[i]? with
  | none => rw [List.eraseIdx_of_length_le (List.getElem?_eq_none_iff.1 h)]; exact HS
  | some c => exact (HS.front i h).tail
theorem Sat.swap {a b : Chunk} (HS : Sat W0 w (a :: b :: L)) : Sat W0 w (b :: a :: L) := by
  obtain ⟨h1, h2, h3, h4, F, hF, hD⟩ := HS
  refine ⟨h1, h2, h3, h4, fun j => F (match j with | 0 => 1 | 1 => 0 | j + 2 => j + 2), fun j cj hj => ?_, fun j j' k hj hj' => ?_⟩
  · match j with
    | 0 => exact hF 1 cj (by simpa using hj)
    | 1 => exact hF 0 cj (by simpa using hj)
    | j + 2 => exact hF (j + 2) cj (by simpa using hj)
  · have := hD _ _ _ hj hj'
    match j, j' with
    | 0, 0 => rfl
    | 1, 1 => rfl
    | 0, 1 => simp at this
    | 1, 0 => simp at this
    | 0, j' + 2 => simp at this
    | 1, j' + 2 => simp at this
    | j + 2, 0 => simp at this
    | j + 2, 1 => simp at this
    | j + 2, j' + 2 => simpa using this
theorem Sat.join {a b : Chunk} (HS : Sat W0 w (a :: b :: L)) : Sat W0 w (two a b :: L) := by
  obtain ⟨h1, h2, h3, h4, F, hF, hD⟩ := HS
  refine ⟨h1, h2, h3, h4, fun j k => match j with | 0 => F 0 k ∨ F 1 k | j + 1 => F (j + 2) k, fun j cj hj => ?_, fun j j' k hj hj' => ?_⟩
  · match j with
    | 0 =>
      obtain rfl := Option.some.inj hj
      exact ⟨F 0, F 1, hF 0 _ rfl, hF 1 _ rfl, fun k hk => .inl hk, fun k hk => .inr hk, fun k hk hk' => by have := hD _ _ _ hk hk'; omega⟩
    | j + 1 => exact hF (j + 2) cj (by simpa using hj)
  · match j, j' with
    | 0, 0 => rfl
    | 0, j' + 1 => rcases hj with hj | hj <;> (have := hD _ _ _ hj hj'; omega)
    | j + 1, 0 => rcases hj' with hj' | hj' <;> (have := hD _ _ _ hj hj'; omega)
    | j + 1, j' + 1 => have := hD _ _ _ hj hj'; omega
theorem Sat.split {a b : Chunk} (HS : Sat W0 w (two a b :: L)) : Sat W0 w (a :: b :: L) := by
  obtain ⟨h1, h2, h3, h4, F, hF, hD⟩ := HS
  obtain ⟨s1, s2, ha, hb, m1, m2, dj⟩ := hF 0 _ rfl
  refine ⟨h1, h2, h3, h4, fun j k => match j with | 0 => s1 k | 1 => s2 k | j + 2 => F (j + 1) k, fun j cj hj => ?_, fun j j' k hj hj' => ?_⟩
  · match j with
    | 0 => obtain rfl := Option.some.inj hj; exact ha
    | 1 =>
      have : cj = b := by simpa using hj.symm
      subst this; exact hb
    | j + 2 => exact hF (j + 1) cj (by simpa using hj)
  · match j, j' with
    | 0, 0 => rfl
    | 1, 1 => rfl
    | 0, 1 => exact (dj k hj hj').elim
    | 1, 0 => exact (dj k hj' hj).elim
    | 0, j' + 2 => have := hD 0 (j' + 1) k (m1 k hj) hj'; omega
    | 1, j' + 2 => have := hD 0 (j' + 1) k (m2 k hj) hj'; omega
    | j + 2, 0 => have := hD (j + 1) 0 k hj (m1 k hj'); omega
    | j + 2, 1 => have := hD (j + 1) 0 k hj (m2 k hj'); omega
    | j + 2, j' + 2 => have := hD _ _ _ hj hj'; omega
end
section
variable {W0 w w1 : World} {L : List Chunk} {i : Nat}
theorem Sat.blk {g : Nat} {t : TypeId} {cs : Array Value} (HS : Sat W0 w L) (i : Nat) (hi : L[i]? = some (blk g t cs)) : w.heap[g]? = some (.cells cs t (0, 0)) := by
  obtain ⟨_, _, _, _, F, hF, _⟩ := HS
  exact (hF i _ hi).1
theorem Sat.cell {g : Nat} {t : TypeId} {cs : Array Value} (HS : Sat W0 w L) (i : Nat) (hi : L[i]? = some (Sep.blk g t cs)) (j : Nat) : w.cell? ⟨g, j, none⟩ = cs[j]? := blk_cell (HS.blk i hi) j
theorem Sat.frozen {g : Nat} {t : TypeId} {cs : Array Value} (HS : Sat W0 w L) (i : Nat) (hi : L[i]? = some (Sep.blk g t cs)) (j : Nat) : w.frozen? ⟨g, j, none⟩ = false := blk_frozen (HS.blk i hi) j
theorem Sat.row {α : Type} {d : Kd α} {e : Nat} {v : Value} {xs : List α} (HS : Sat W0 w L) (i : Nat) (hi : L[i]? = some (Sep.row d e v xs)) : ∃ s, d.R e w 0 s v xs := by
  obtain ⟨_, _, _, _, F, hF, _⟩ := HS
  exact ⟨_, hF i _ hi⟩
theorem Sat.C {α : Type} {d : Kd α} {e : Nat} {A : Option Addr} {n c : Nat} {xs : List α} (HS : Sat W0 w L) (i : Nat) (hi : L[i]? = some (Sep.row d e (.slice A n c) xs)) : d.C w A n xs := by
  obtain ⟨s, h⟩ := HS.row i hi
  obtain ⟨rfl, _, h3⟩ := Kd.R_reads' h
  exact h3
theorem Sat.slice {α : Type} {d : Kd α} {e : Nat} {v : Value} {xs : List α} (HS : Sat W0 w L) (i : Nat) (hi : L[i]? = some (Sep.row d e v xs)) : ∃ A c, v = .slice A xs.length c := by
  obtain ⟨s, h⟩ := HS.row i hi
  exact Kd.R_slice h
theorem Sat.cap {α : Type} {d : Kd α} {e : Nat} {A : Option Addr} {n c : Nat} {xs : List α} (HS : Sat W0 w L) (i : Nat) (hi : L[i]? = some (Sep.row d e (.slice A n c) xs)) : n = xs.length ∧ xs.length ≤ c := by
  obtain ⟨s, h⟩ := HS.row i hi
  obtain ⟨rfl, h2, _⟩ := Kd.R_reads' h
  exact ⟨rfl, h2⟩
theorem Sat.old (HS : Sat W0 w L) (i : Nat) (hi : L[i]? = some (Sep.old W0)) : Below W0.heap.size W0 w := by
  obtain ⟨h1, h2, h3, h4, F, hF, _⟩ := HS
  exact ⟨h1, h2, h3, h4, fun k hk => (hF i _ hi k hk).2.2⟩
/-- A store into a block. -/
theorem Sat.store {g : Nat} {t : TypeId} {cs : Array Value} (HS : Sat W0 w L) (i : Nat) (hi : L[i]? = some (Sep.blk g t cs)) (j : Nat) (v : Value) : Sat W0 (w.setCell ⟨g, j, none⟩ v) (L.set i (Sep.blk g t (cs.setIfInBounds j v))) :=
  HS.upd i hi fun s h => ⟨⟨rfl, rfl, rfl, by simp [World.setCell], fun k _ hs => Below.heap_setCell w ⟨g, j, none⟩ v k (fun e => hs (by rw [show k = g from e]; exact h.2))⟩, blk_set h.1 j v, .inl h.2⟩
theorem Sat.alloc (HS : Sat W0 w L) (t : TypeId) (cs : Array Value) : Sat W0 (w.alloc (.cells cs t (0, 0))) (Sep.blk w.heap.size t cs :: L) :=
  HS.new (below_alloc (Below.refl _ _) _) ⟨blk_new w _, Nat.le_refl _⟩
theorem Sat.drewN (HS : Sat W0 w L) (n : Nat) : Sat W0 (w.drewN n) L := HS.below (pw_below_drewN (Below.refl _ _) n)
theorem Sat.drew (HS : Sat W0 w L) : Sat W0 w.drew L := HS.below (below_drew (Below.refl _ _))
/-- A row that a call made. -/
theorem Sat.made {α : Type} {d : Kd α} {e : Nat} {v : Value} {xs : List α} (HS : Sat W0 w L) (hb : Below w.heap.size w w1) {ok : Nat → Prop} (h : d.R e w1 w.heap.size ok v xs) : Sat W0 w1 (Sep.row d e v xs :: L) :=
  HS.new hb (Kd.R_lower (Kd.R_mono (Kd.R_bound h) (fun k hk => hk.2.1)) (Nat.zero_le _))
theorem Sat.nil {α : Type} (d : Kd α) (e : Nat) (HS : Sat W0 w L) : Sat W0 w (Sep.row d e (.slice none 0 0) [] :: L) :=
  HS.new (Below.refl _ _) (Kd.R_nil d e w 0 _)
/-- A block that is a literal's becomes a row. -/
theorem Sat.lit {α : Type} (d : Kd α) {e : Nat} {xs : List α} {inner : List Value} (HS : Sat W0 w L) (hr : Reps (d.M w 0 (fun _ => False)) d.sz xs inner) (hm : xs.length ≤ 9223372036854775807) :
    Sat W0 (w.alloc (.cells inner.toArray e (0, 0))) (Sep.row d e (.slice (some ⟨w.heap.size, 0, none⟩) xs.length xs.length) xs :: L) := by
  refine HS.new (below_alloc (Below.refl _ _) _) ?_
  refine ⟨fun k hk => ?_, inner, ?_, ?_⟩
  · have : w.heap.size = k := by simpa [Value.ownBlock] using hk
    omega
  · have h2 := World.ownsRow_lit (base := 0) (e := e) (size := d.sz) w inner.toArray xs.length (Nat.zero_le _) (by simpa [maxLen] using hm) (by simpa using hr.1)
    simpa using h2
  · exact hr.imp_ (fun p c hp => d.M_mono (fun k hk => hk.elim) (Kd.M_below hp (below_alloc (Below.refl _ _) _)))
end
section
variable {P : Program} {ops : Array Oper} {rest : List Oper} {o : Oper} {a : Act} {Q : Exit → Act → World → Prop} {α : Type} {W0 w : World} {L : List Chunk}
/-- A call of a method through an interface value. -/
theorem goesI_ {oi : Oper} (N : Option Tmp) (hd : oi.dst = N) (hg : oi.guard = none) {t : Tmp} {name : String} {xs : Array Operand} {ts : Array TypeId} {T : TypeId} {self s : Value} {f : FuncId} (args : Array Value)
    (hop : oi.op = .call { callee := .invoke (.tmp t) name, args := xs, argTypes := ts }) (hv : a.eval (.tmp t) = .iface T self) (hargs : xs.map a.eval = args)
    (hm : ∀ w : World, (method (P.types.size + Made.depth) T self name).run P w = .ok (f, s) w) (he : ∀ (args : Array Value) (w : World), (callFunc f args).run P w = .ok (.enter f args) w)
    (h : Calls P f (#[s] ++ args) w fun e w' => ∃ v, e = .returned v ∧ wpList P ops Q rest (a.put N v) w') : wpList P ops Q (oi :: rest) a w := by
  refine wpList_plain hg fun K hK => ?_
  have hrun : (execOp a.eval oi).run P w = .ok (.enter f (#[s] ++ args)) w := by
    have h0 : (#[Value.iface T self] ++ args)[0]? = some (.iface T self) := by rw [Array.getElem?_append_left (by simp)]; rfl
    unfold execOp
    simp [hop, resolve, invoke, callMethod, hv, hargs, hm, he, h0]
  unfold Oper.wp
  rw [hrun, Oper.upon_enter]
  refine h.mono fun e w'' hh => ?_
  obtain ⟨v, rfl, hk⟩ := hh
  subst hd
  exact hK _ _ hk
theorem gate_invoke {t : Tmp} {name : String} {xs : Array Operand} {ts : Array TypeId} (_ho : o.op = .call { callee := .invoke (.tmp t) name, args := xs, argTypes := ts }) (h : wpList P ops Q (o :: rest) a w) : wpList P ops Q (o :: rest) a w := h
theorem wp_sat {c : Code} (HS : Sat W0 w L) (h : ∀ w1, Sat W0 w1 L → c.wp P Q a w1) : c.wp P Q a w := h w HS
theorem wp_drawnN {c : Code} (HS : Sat W0 w L) {n : Nat} (h : ∀ w1, Sat W0 w1 L → c.wp P Q a w1) : c.wp P Q a (w.drewN n) := h _ (HS.drewN n)
theorem then_drawnN {K : Act → World → Prop} {e : Exit} (HS : Sat W0 w L) {n : Nat} (h : ∀ w1, Sat W0 w1 L → Exit.then K Q e a w1) : Exit.then K Q e a (w.drewN n) := h _ (HS.drewN n)
/-- A variable's block; a box. -/
theorem ev_box (HS : Sat W0 w L) (hgd : o.guard = none) {N : Tmp} (hd : o.dst = some N) {cs : Array Value} {t : TypeId}
    (hrun : (execOp a.eval o).run P w = .ok (.value (.pointer (some ⟨w.heap.size, 0, none⟩))) (w.alloc (.cells cs t (0, 0))))
    (h : ∀ g w1, Sat W0 w1 (blk g t cs :: L) → wpList P ops Q rest (a.put (some N) (.pointer (some ⟨g, 0, none⟩))) w1) : wpList P ops Q (o :: rest) a w :=
  Kd.event_run hgd hrun (by rw [hd]; exact h _ _ (HS.alloc t cs))
/-- A literal's row. -/
theorem ev_lit (d : Kd α) {e : Nat} (HS : Sat W0 w L) (hgd : o.guard = none) {N : Tmp} (hd : o.dst = some N) {xs : List α} {inner : List Value}
    (hrun : (execOp a.eval o).run P w = .ok (.value (.slice (some ⟨w.heap.size, 0, none⟩) xs.length xs.length)) (w.alloc (.cells inner.toArray e (0, 0))))
    (hr : Reps (d.M w 0 (fun _ => False)) d.sz xs inner) (hm : xs.length ≤ 9223372036854775807)
    (h : ∀ g w1, Sat W0 w1 (row d e (.slice (some ⟨g, 0, none⟩) xs.length xs.length) xs :: L) → wpList P ops Q rest (a.put (some N) (.slice (some ⟨g, 0, none⟩) xs.length xs.length)) w1) : wpList P ops Q (o :: rest) a w :=
  Kd.event_run hgd hrun (by rw [hd]; exact h _ _ (HS.lit d hr hm))
/-- append(v, ys...). -/
theorem ev_append (d : Kd α) (HS : Sat W0 w L) (i : Nat) (s x : Operand) (t e : TypeId) (z : Value) (bytes : Nat) {v : Value} {xs ys : List α} {A : Option Addr} {m c : Nat} (hi : L[i]? = some (row d e v xs)) (hC : d.C w A m ys)
    (hKM : ∀ x cs, d.K w x cs → d.M w 0 (fun _ => False) x cs) (hgd : o.guard = none) (ho : o.op = .call { callee := .builtin .append, args := #[s, x], argTypes := #[t, t] }) (hs : a.eval s = v) (hx : a.eval x = .slice A m c)
    (ht : P.underlying t = some (.slice e)) (hinfo : (P.info? e).map (fun i => (i.zero, i.size, i.bytes)) = some (some z, d.sz, bytes)) (hz : z.cells.size = d.sz) (hs0 : 0 < d.sz) (hb0 : 0 < bytes) (hl : (xs.length + m) * bytes ≤ 140737488355328)
    (h : ∀ v1 w1, Sat W0 w1 (L.set i (row d e v1 (xs ++ ys))) → wpList P ops Q rest (a.put o.dst v1) w1) : wpList P ops Q (o :: rest) a w := by
  obtain ⟨S, HO, hlt, hput⟩ := HS.open i hi
  refine Kd.R_append_rows d (w0 := w) 0 hgd s x t e z bytes ho ht hinfo hz hs0 hb0 v xs ys A m c (fun k => S k ∨ w.heap.size ≤ k) (fun _ => False) hs hx (Kd.R_mono HO (fun k hk => .inl hk)) hC hKM (fun _ h => h.elim) (fun k hk => .inr hk) (Below.refl _ _) (Nat.zero_le _) hl ?_
  intro v1 w1 hR hb hg hat
  exact h v1 w1 (hput w1 _ ⟨hg.os, hg.tape, hg.output, hg.size, fun k hk hs => hg.block k hk (fun e => hs (HO.1 k e.symm))⟩ hR)
end
section
variable {P : Program} {ops : Array Oper} {o : Oper} {a : Act} {Q : Exit → Act → World → Prop} {Kc : Act → World → Prop} {α : Type} {W0 w : World} {L : List Chunk}
/-- The same events as one step of a region that draws. -/
theorem ev_lit_step (d : Kd α) {e : Nat} (HS : Sat W0 w L) (hw : Region.wanted o (yielded ops a.tmps) = true) {N : Tmp} (hd : o.dst = some N) {xs : List α} {inner : List Value}
    (hrun : (execOp a.eval o).run P w = .ok (.value (.slice (some ⟨w.heap.size, 0, none⟩) xs.length xs.length)) (w.alloc (.cells inner.toArray e (0, 0))))
    (hr : Reps (d.M w 0 (fun _ => False)) d.sz xs inner) (hm : xs.length ≤ 9223372036854775807)
    (h : ∀ g w1, Sat W0 w1 (row d e (.slice (some ⟨g, 0, none⟩) xs.length xs.length) xs :: L) → Kc (a.put (some N) (.slice (some ⟨g, 0, none⟩) xs.length xs.length)) w1) : if Region.wanted o (yielded ops a.tmps) = true then Oper.wp P o a w Kc Q else Kc (a.put (some N) undef) w := by
  rw [if_pos hw]
  unfold Oper.wp
  rw [hrun]
  show Kc (a.put o.dst _) _
  rw [hd]
  exact h _ _ (HS.lit d hr hm)
theorem ev_append_step (d : Kd α) (HS : Sat W0 w L) (i : Nat) (s x : Operand) (t e : TypeId) (z : Value) (bytes : Nat) {v : Value} {xs ys : List α} {A : Option Addr} {m c : Nat} (hi : L[i]? = some (row d e v xs)) (hC : d.C w A m ys)
    (hKM : ∀ x cs, d.K w x cs → d.M w 0 (fun _ => False) x cs) (hw : Region.wanted o (yielded ops a.tmps) = true) {N : Tmp} (hd : o.dst = some N) (ho : o.op = .call { callee := .builtin .append, args := #[s, x], argTypes := #[t, t] }) (hs : a.eval s = v) (hx : a.eval x = .slice A m c)
    (ht : P.underlying t = some (.slice e)) (hinfo : (P.info? e).map (fun i => (i.zero, i.size, i.bytes)) = some (some z, d.sz, bytes)) (hz : z.cells.size = d.sz) (hs0 : 0 < d.sz) (hb0 : 0 < bytes) (hl : (xs.length + m) * bytes ≤ 140737488355328)
    (h : ∀ v1 w1, Sat W0 w1 (L.set i (row d e v1 (xs ++ ys))) → Kc (a.put (some N) v1) w1) : if Region.wanted o (yielded ops a.tmps) = true then Oper.wp P o a w Kc Q else Kc (a.put (some N) undef) w := by
  obtain ⟨S, HO, hlt, hput⟩ := HS.open i hi
  have key := Kd.R_append_rows_step (P := P) (ops := ops) (o := o) (a := a) (Q := Q) (Kc := Kc) d (w0 := w) 0 hw s x t e z bytes ho ht hinfo hz hs0 hb0 v xs ys A m c (fun k => S k ∨ w.heap.size ≤ k) (fun _ => False) hs hx (Kd.R_mono HO (fun k hk => .inl hk)) hC hKM (fun _ h => h.elim) (fun k hk => .inr hk) (Below.refl _ _) (Nat.zero_le _) hl
    (fun v1 w1 hR hb hg hat => by rw [hd]; exact h v1 w1 (hput w1 _ ⟨hg.os, hg.tape, hg.output, hg.size, fun k hk hs => hg.block k hk (fun e => hs (HO.1 k e.symm))⟩ hR))
  rw [hd] at key
  exact key
end
section
/-- A whole block is written. -/
def setA (cs : Array Value) : Nat → List Value → Array Value
  | _, [] => cs
  | o, v :: r => setA (cs.setIfInBounds o v) (o + 1) r
theorem setA_get : ∀ (vs : List Value) (cs : Array Value) (o : Nat), o + vs.length ≤ cs.size → (setA cs o vs).size = cs.size ∧ ∀ j, (setA cs o vs)[j]? = if o ≤ j ∧ j < o + vs.length then vs[j - o]? else cs[j]?
  | [], cs, o, _ => ⟨rfl, fun j => by rw [if_neg (by simp only [List.length_nil]; omega)]; rfl⟩
  | v :: r, cs, o, h => by
    simp only [List.length_cons] at h
    obtain ⟨h1, h2⟩ := setA_get r (cs.setIfInBounds o v) (o + 1) (by rw [Array.size_setIfInBounds]; omega)
    refine ⟨by rw [setA, h1, Array.size_setIfInBounds], fun j => ?_⟩
    rw [setA, h2 j]
    by_cases e : j = o
    · subst e
      rw [if_neg (by omega), if_pos (by simp only [List.length_cons]; omega), Nat.sub_self, Array.getElem?_setIfInBounds_self_of_lt (by omega)]
      rfl
    · by_cases h3 : o + 1 ≤ j ∧ j < o + 1 + r.length
      · rw [if_pos h3, if_pos (by simp only [List.length_cons]; omega)]
        obtain ⟨q, hq⟩ : ∃ q, j - o = q + 1 := ⟨j - o - 1, by omega⟩
        rw [hq, List.getElem?_cons_succ, show j - (o + 1) = q by omega]
      · rw [if_neg h3, if_neg (by simp only [List.length_cons]; omega), Array.getElem?_setIfInBounds_ne (by omega)]
theorem setA_whole (vs : List Value) (cs : Array Value) (h : vs.length = cs.size) : setA cs 0 vs = vs.toArray := by
  obtain ⟨h1, h2⟩ := setA_get vs cs 0 (by omega)
  apply Array.ext_getElem?
  intro j
  rw [h2 j]
  by_cases hj : j < vs.length
  · rw [if_pos (by omega)]; simp
  · rw [if_neg (by omega), Array.getElem?_eq_none (by omega)]
    simp [List.getElem?_eq_none (show vs.length ≤ j by omega)]
theorem blk_setCells (g t : Nat) : ∀ (vs : List Value) (o : Nat) (w : World) (cs : Array Value), w.heap[g]? = some (.cells cs t (0, 0)) → (w.setCells g o vs).heap[g]? = some (.cells (setA cs o vs) t (0, 0))
  | [], _, _, _, h => h
  | v :: r, o, w, cs, h => blk_setCells g t r (o + 1) _ _ (blk_set h o v)
theorem heap_setCells (g : Nat) : ∀ (vs : List Value) (o : Nat) (W : World) (k : Nat), k ≠ g → (W.setCells g o vs).heap[k]? = W.heap[k]?
  | [], _, _, _, _ => rfl
  | v :: r, o, W, k, h => by
    rw [World.setCells, heap_setCells g r _ _ k h]
    exact Below.heap_setCell W ⟨g, o, none⟩ v k h
theorem but_setCells (g : Nat) : ∀ (vs : List Value) (o : Nat) (w : World), (w.setCells g o vs).os = w.os ∧ (w.setCells g o vs).tape = w.tape ∧ (w.setCells g o vs).output = w.output ∧ (w.setCells g o vs).heap.size = w.heap.size
  | [], _, _ => ⟨rfl, rfl, rfl, rfl⟩
  | v :: r, o, w => by
    obtain ⟨h1, h2, h3, h4⟩ := but_setCells g r (o + 1) (w.setCell ⟨g, o, none⟩ v)
    exact ⟨h1, h2, h3, h4.trans (by simp [World.setCell])⟩
theorem Sat.stores {W0 w : World} {L : List Chunk} {g : Nat} {t : TypeId} {cs : Array Value} (HS : Sat W0 w L) (i : Nat) (hi : L[i]? = some (Sep.blk g t cs)) (vs : List Value) (hl : vs.length = cs.size) : Sat W0 (w.setCells g 0 vs) (L.set i (Sep.blk g t vs.toArray)) :=
  HS.upd i hi fun s h => by
    obtain ⟨h1, h2, h3, h4⟩ := but_setCells g vs 0 w
    refine ⟨⟨h1, h2, h3, by omega, fun k _ hs => heap_setCells g vs 0 w k (fun e => hs (by rw [e]; exact h.2))⟩, ?_, .inl h.2⟩
    rw [← setA_whole vs cs hl]
    exact blk_setCells g t vs 0 w cs h.1
end
section
variable {P : Program} {ops : Array Oper} {rest : List Oper} {o : Oper} {a : Act} {Q : Exit → Act → World → Prop} {W0 w : World} {L : List Chunk} {g : Nat} {t : TypeId} {cs : Array Value}
theorem gate_load {ty : TypeId} {p : Tmp} (_ho : o.op = .load ty (.tmp p)) (h : wpList P ops Q (o :: rest) a w) : wpList P ops Q (o :: rest) a w := h
/-- A whole struct is read out of its block. -/
theorem ev_load (HS : Sat W0 w L) (i : Nat) (hi : L[i]? = some (blk g t cs)) (hgd : o.guard = none) (ty : TypeId) (x : Operand) (ho : o.op = .load ty x) {N : Tmp} (hd : o.dst = some N) (hx : a.eval x = .pointer (some ⟨g, 0, none⟩)) (d : TypeDesc)
    (hu : P.underlying ty = some d) (hdd : (match d with | .struct _ | .array _ _ => true | _ => false) = true) (hin : (P.info? ty).map (·.size) = some cs.size)
    (h : wpList P ops Q rest (a.put (some N) (.agg cs)) w) : wpList P ops Q (o :: rest) a w :=
  wpList_load_row hgd ty x ho g hx t cs (0, 0) d (HS.blk i hi) hu hdd hin (by rw [hd]; exact h)
/-- A whole struct is written. -/
theorem ev_store (HS : Sat W0 w L) (i : Nat) (hi : L[i]? = some (blk g t cs)) (hgd : o.guard = none) (ty : TypeId) (p x : Operand) (ho : o.op = .store ty p x) (hd : o.dst = none) (hp : a.eval p = .pointer (some ⟨g, 0, none⟩)) (vs : List Value) (hx : a.eval x = .agg vs.toArray)
    (hin : (P.info? ty).map (·.size) = some vs.length) (hl : vs.length = cs.size) (h1 : ∀ q ∈ vs, q.oneCell' = true)
    (h : ∀ w1, Sat W0 w1 (L.set i (blk g t vs.toArray)) → wpList P ops Q rest a w1) : wpList P ops Q (o :: rest) a w := by
  refine wpList_plain hgd fun K hK => ?_
  have hr := run_store_run (P := P) (w := w) (o := 0) ty (.agg vs.toArray) vs (HS.blk i hi) (by simp [Value.cells]) hin (by omega) h1
  unfold Oper.wp execOp
  simp only [ho, hp, hx, Sem.run_bind, Sem.run_pure, hr, Result.andThen_ok]
  show K (a.put o.dst undef) _
  rw [hd]
  exact hK _ _ (h _ (HS.stores i hi vs hl))
/-- A result that is a block's struct. -/
theorem ret_row (HS : Sat W0 w L) (i : Nat) (hi : L[i]? = some (blk g t cs)) {fn : Func} {R : Ending → World → Prop} {p : Tmp} {ty : TypeId} (hres : fn.results = #[.cell p ty]) (hp : a.tmps.getD p undef = .pointer (some ⟨g, 0, none⟩)) (d : TypeDesc)
    (hu : P.underlying ty = some d) (hdd : (match d with | .struct _ | .array _ _ => true | _ => false) = true) (hin : (P.info? ty).map (·.size) = some cs.size) (hdf : a.defers = []) (hR : R (.returned (.agg cs)) w) : bodyPost P fn R .ret a w :=
  bodyPost_ret (v := .agg cs) (results_cell_row hres a.tmps w g t cs (0, 0) d hp (HS.blk i hi) hu hdd hin) hdf hR
end
end Go.Proofs.YtenkganofobioaaDoor.Sep
