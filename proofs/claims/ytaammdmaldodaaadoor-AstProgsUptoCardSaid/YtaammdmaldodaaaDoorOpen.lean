/- Arguments read as data give the walks their cells: structs of whole numbers, slices of anything. -/
import Derived.Test.YtaammdmaldodaaaDoorMine
import Derived.OpenShut
import Derived.ChangeOld
import Derived.SizedLaws
namespace Go.Proofs.YtaammdmaldodaaaDoor.Mine
open Go.RowKit Go.Proofs.YtaammdmaldodaaaDoorW.PrintWords Go.Proofs.YtaammdmaldodaaaDoorW.PrintLast Go.Proofs.YtaammdmaldodaaaDoorW.PrintMore
set_option linter.unusedSimpArgs false
set_option linter.unusedVariables false

/-- What the row knows of an argument that is no number. -/
structure Arg {H : Type} (enc : TypeId × Value → H) (P : Program) (W : World) (t : TypeId) (v : Value) (d : DataW H) (p : List MemPlace) : Prop where
  read : DataW.Trod enc P W 0 (fun _ => true) true t v d p
  low : ∀ x ∈ p, x.block < W.heap.size
  ok : ∃ base, Value.okWide P W .any base t v

theorem i64_bounds {a : Int} (h : (Lit.int .i64 a).wf = true) : -9223372036854775808 ≤ a ∧ a ≤ 9223372036854775807 := by
  simp [Lit.wf, IntKind.min, IntKind.max, IntKind.signed, IntKind.bits] at h; omega
theorem u8_bounds {a : Int} (h : (Lit.int .u8 a).wf = true) : 0 ≤ a ∧ a < 256 := by
  simp [Lit.wf, IntKind.min, IntKind.max, IntKind.signed, IntKind.bits] at h; omega

section
variable {H : Type} {enc : TypeId × Value → H} {P : Program} {w : World} {base : Nat} {spare : Nat → Bool} {held : Bool} {fuel : Nat} {t e : TypeId} {cs : List Value} {x : DataW H × List MemPlace}

/-- A struct all of whose fields are whole numbers of one kind, one cell each. -/
theorem trod_ints {k : IntKind} {fs : Array Field} (ht : P.underlying t = some (.struct fs)) (hn : P.cellsOf t = fs.size)
    (hf : ∀ (i : Nat) (f : Field), fs[i]? = some f → P.underlying f.type = some (.int k) ∧ f.offset = i ∧ P.cellsOf f.type = 1)
    (h : DataW.trod enc P w base spare held fuel t cs = some x) : ∃ zs : List Int, cs = zs.map (Value.int k) ∧ zs.length = fs.size ∧ ∀ z ∈ zs, (Lit.int k z).wf = true := by
  obtain ⟨xs, n, rfl, _, hlen, hx, hel⟩ := DataW.trod_struct ht h
  have key : ∀ i, i < fs.size → ∃ z, cs[i]? = some (.int k z) ∧ (Lit.int k z).wf = true := by
    intro i hi
    obtain ⟨h1, h2, h3⟩ := hf i fs[i] (Array.getElem?_eq_getElem hi)
    have h4 := hel i fs[i] (Array.getElem?_eq_getElem hi)
    rw [h2, h3] at h4
    obtain ⟨y, hy⟩ : ∃ y, xs[i]? = some y := ⟨_, List.getElem?_eq_getElem (by omega)⟩
    rw [hy] at h4
    obtain ⟨z, hz, _, hwf⟩ := DataW.trod_int h1 h4
    refine ⟨z, ?_, hwf⟩
    have h5 : ((cs.drop i).take 1)[0]? = some (.int k z) := by rw [hz]; rfl
    rw [List.getElem?_take, if_pos (by decide), List.getElem?_drop, Nat.add_zero] at h5
    exact h5
  have hl : cs.length = fs.size := by omega
  clear hel hx h hlen hf
  generalize fs.size = n at key hl
  clear ht hn
  induction cs generalizing n with
  | nil => exact ⟨[], rfl, hl, fun _ h => by cases h⟩
  | cons c cs ih =>
    cases n with
    | zero => simp at hl
    | succ n =>
      obtain ⟨z, hz, hwf⟩ := key 0 (by omega)
      obtain ⟨zs, e1, e2, e3⟩ := ih n (fun i hi => by
        obtain ⟨z, h1, h2⟩ := key (i + 1) (by omega)
        exact ⟨z, by simpa using h1, h2⟩) (by simpa using hl)
      refine ⟨z :: zs, ?_, by simp [e2], ?_⟩
      · simp only [List.getElem?_cons_zero, Option.some.injEq] at hz
        rw [hz, e1]; rfl
      · intro y hy
        rcases List.mem_cons.mp hy with rfl | hy
        · exact hwf
        · exact e3 y hy

theorem cells_at {w : World} {base : Nat} {a : Addr} {n : Nat} {cs : List Value} (h : w.cells? base a n = some cs) : cs.length = n ∧ ∀ (i : Nat) u, cs[i]? = some u → w.cell? (a.add i) = some u := by
  obtain ⟨_, hl, hm⟩ := World.cells?_some h
  exact ⟨hl, fun i u hu => by
    rw [hm i (by have := (List.getElem?_eq_some_iff.mp hu).1; omega)]; exact hu⟩

/-- A slice whose elements read as a kind's values. -/
theorem trod_row {α : Type} (d : Kd α) (Wf : α → Prop) (ht : P.underlying t = some (.slice e)) (hs : P.cellsOf e = d.sz)
    (he : ∀ fuel cs x, DataW.trod enc P w base spare held fuel e cs = some x → ∃ a, d.K w a cs ∧ Wf a)
    (h : DataW.trod enc P w base spare held fuel t cs = some x) : ∃ A n cap xs, cs = [.slice A n cap] ∧ n ≤ cap ∧ cap ≤ maxLen ∧ Kd.C d w A n xs ∧ (∀ a ∈ xs, Wf a) ∧ (A = none → cap = 0) := by
  rcases DataW.trod_slice ht h with ⟨rfl, _⟩ | ⟨a, len, cap, elems, rest, n, rfl, rfl, _, _, hl, hm, hn, hel, _⟩
  · exact ⟨none, 0, 0, [], rfl, Nat.le_refl _, by unfold maxLen; omega, ⟨rfl, by omega, fun h => by omega⟩, (fun _ h => by cases h), fun _ => rfl⟩
  · have hall : ∀ i, i < len → ∃ z cs, d.K w z cs ∧ Wf z ∧ w.cells? base (a.add (i * P.cellsOf e)) (P.cellsOf e) = some cs := by
      intro i hi
      have h1 := hel i hi
      rw [List.getElem?_eq_getElem (by omega : i < elems.length), Option.bind_eq_some_iff] at h1
      obtain ⟨cs, h2, h3⟩ := h1
      obtain ⟨z, hz, hwf⟩ := he _ _ _ h3
      exact ⟨z, cs, hz, hwf, h2⟩
    have hlist : ∀ m, m ≤ len → ∃ xs : List α, xs.length = m ∧ (∀ z ∈ xs, Wf z) ∧ ∀ j p, xs[j]? = some p → ∃ c, c.length = d.sz ∧ d.K w p c ∧ ∀ i u, c[i]? = some u → w.cell? (a.add (j * d.sz + i)) = some u := by
      intro m
      induction m with
      | zero => intro _; exact ⟨[], rfl, (fun _ h => by cases h), fun j p h => by simp at h⟩
      | succ m ih =>
        intro hm
        obtain ⟨xs, h1, h2, h3⟩ := ih (by omega)
        obtain ⟨z, cs, hz, hwf, hcs⟩ := hall m (by omega)
        refine ⟨xs ++ [z], by simp [h1], ?_, ?_⟩
        · intro y hy
          rcases List.mem_append.mp hy with hy | hy
          · exact h2 y hy
          · rw [List.mem_singleton.mp hy]; exact hwf
        · intro j p hp
          by_cases hj : j < m
          · rw [List.getElem?_append_left (by omega)] at hp; exact h3 j p hp
          · have hjm : j = m := by
              have := (List.getElem?_eq_some_iff.mp hp).1
              simp at this; omega
            subst hjm
            rw [List.getElem?_append_right (by omega), h1] at hp
            simp at hp
            subst hp
            obtain ⟨hlen, hcell⟩ := cells_at hcs
            refine ⟨cs, by omega, hz, fun i u hu => ?_⟩
            have := hcell i u hu
            rw [hs] at this
            have e1 : (a.add (j * d.sz)).add i = a.add (j * d.sz + i) := by
              unfold Addr.add; split <;> split <;> simp_all <;> omega
            rw [← e1]; exact this
    obtain ⟨xs, h1, h2, h3⟩ := hlist len (Nat.le_refl _)
    refine ⟨some a, len, cap, xs, rfl, hl, hm, ⟨h1, ?_, fun _ => ⟨a, rfl, h3⟩⟩, h2, fun h => by cases h⟩
    unfold maxLen at hm; omega
end
end Go.Proofs.YtaammdmaldodaaaDoor.Mine
