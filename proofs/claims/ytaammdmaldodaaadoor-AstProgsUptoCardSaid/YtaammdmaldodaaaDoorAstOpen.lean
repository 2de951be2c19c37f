/- Trees that come in. -/
import Derived.Test.YtaammdmaldodaaaDoorOpen
import Derived.Test.YtaammdmaldodaaaDoorAstPure
import Derived.KernelRfl
namespace Go.Proofs.YtaammdmaldodaaaDoor.B
open Go.RowKit Go.Proofs.YtaammdmaldodaaaDoor.Mine Go.Proofs.YtaammdmaldodaaaDoorW.PrintWords Go.Proofs.YtaammdmaldodaaaDoorW.PrintLast Go.Proofs.YtaammdmaldodaaaDoorW.PrintMore
set_option linter.unusedSimpArgs false
set_option linter.unusedVariables false
set_option maxRecDepth 100000 in
theorem agg_of_cells {v : Value} {cs : List Value} (h : v.cells.toList = cs) (hn : cs.length ≠ 1) : v = .agg cs.toArray := by
  cases v
  case agg c => simp only [Value.cells] at h; rw [← h]
  all_goals (simp only [Value.cells] at h; subst h; simp at hn)
noncomputable def fieldsOf (t : Nat) : Array Field := (match Tryd.prog.underlying t with | some (.struct fs) => fs | _ => #[])
set_option maxRecDepth 100000 in
theorem field_int {fs : Array Field} {i : Nat} {k : IntKind} (h : (fs[i]?).map (fun f => (Tryd.prog.underlying f.type, f.offset, Tryd.prog.cellsOf f.type)) = some (some (.int k), i, 1)) :
    ∃ f, fs[i]? = some f ∧ Tryd.prog.underlying f.type = some (.int k) ∧ f.offset = i ∧ Tryd.prog.cellsOf f.type = 1 := by
  obtain ⟨f, h1, h2⟩ := Option.map_eq_some_iff.mp h
  simp only [Prod.mk.injEq] at h2
  exact ⟨f, h1, h2.1, h2.2.1, h2.2.2⟩
set_option maxRecDepth 100000 in
theorem field_at {fs : Array Field} {i t k : Nat} (h : (fs[i]?).map (fun f => (f.type, f.offset)) = some (t, k)) : ∃ f, fs[i]? = some f ∧ f.type = t ∧ f.offset = k := by
  obtain ⟨f, h1, h2⟩ := Option.map_eq_some_iff.mp h
  simp only [Prod.mk.injEq] at h2
  exact ⟨f, h1, h2.1, h2.2⟩
mutual
def okS : S38 → Prop
  | ⟨_, _, _, es, th, el⟩ => okL es ∧ (okSs th ∧ okSs el)
def okSs : List S38 → Prop
  | [] => True
  | s :: r => okS s ∧ okSs r
end
theorem okSs_all : ∀ l, (∀ s ∈ l, okS s) → okSs l
  | [], _ => by rw [okSs]; trivial
  | s :: r, h => by rw [okSs]; exact ⟨h s (List.mem_cons_self ..), okSs_all r (fun x hx => h x (List.mem_cons_of_mem _ hx))⟩
theorem okSs_mem : ∀ {l : List S38} {s}, okSs l → s ∈ l → okS s
  | x :: r, e, h, hm => by
    rw [okSs] at h
    rcases List.mem_cons.1 hm with rfl | hm
    · exact h.1
    · exact okSs_mem h.2 hm
theorem okL_all : ∀ l, (∀ s ∈ l, okE s) → okL l
  | [], _ => by rw [okL]; trivial
  | s :: r, h => by rw [okL]; exact ⟨h s (List.mem_cons_self ..), okL_all r (fun x hx => h x (List.mem_cons_of_mem _ hx))⟩
def okG (g : S54) : Prop := i64 g.f1 ∧ i64 g.f2
def okF (f : S41) : Prop := okSs f.f2
section
variable {H : Type} {enc : TypeId × Value → H} {w : World} {base : Nat} {spare : Nat → Bool} {held : Bool}
/-- A slice whose elements read as a kind's values: what is said of less fuel is enough. -/
theorem trod_rowN {P : Program} {fuel : Nat} {t e : TypeId} {cs : List Value} {x : DataW H × List MemPlace} {α : Type} (d : Kd α) (Wf : α → Prop) (ht : P.underlying t = some (.slice e)) (hs : P.cellsOf e = d.sz)
    (he : ∀ n, n < fuel → ∀ cs x, DataW.trod enc P w base spare held n e cs = some x → ∃ a, d.K w a cs ∧ Wf a)
    (h : DataW.trod enc P w base spare held fuel t cs = some x) : ∃ A c, ∃ xs : List α, cs = [.slice A xs.length c] ∧ xs.length ≤ c ∧ Kd.C d w A xs.length xs ∧ ∀ a ∈ xs, Wf a := by
  rcases DataW.trod_slice ht h with ⟨rfl, _⟩ | ⟨a, len, cap, elems, rest, n, rfl, rfl, _, _, hl, hm, hn, hel, _⟩
  · exact ⟨none, 0, [], rfl, Nat.le_refl _, ⟨rfl, by simp, fun h => by simp at h⟩, fun _ h => by cases h⟩
  · have hall : ∀ i, i < len → ∃ z cs, d.K w z cs ∧ Wf z ∧ w.cells? base (a.add (i * P.cellsOf e)) (P.cellsOf e) = some cs := by
      intro i hi
      have h1 := hel i hi
      rw [List.getElem?_eq_getElem (by omega : i < elems.length), Option.bind_eq_some_iff] at h1
      obtain ⟨cs, h2, h3⟩ := h1
      obtain ⟨z, hz, hwf⟩ := he _ (by omega) _ _ h3
      exact ⟨z, cs, hz, hwf, h2⟩
    have hlist : ∀ m, m ≤ len → ∃ xs : List α, xs.length = m ∧ (∀ z ∈ xs, Wf z) ∧ ∀ j p, xs[j]? = some p → ∃ c, c.length = d.sz ∧ d.K w p c ∧ ∀ i u, c[i]? = some u → w.cell? (a.add (j * d.sz + i)) = some u := by
      intro m
      induction m with
      | zero => intro _; exact ⟨[], rfl, (fun _ h => by cases h), fun j p h => by simp at h⟩
      | succ m ih =>
        intro hm
        obtain ⟨xs, h1, h2, h3⟩ := ih (by omega)
        obtain ⟨z, cs, hz, hwf, hcs⟩ := hall m (by omega)
        refine ⟨xs ++ [z], by simp [h1], ?_, ?_⟩
        · intro y hy
          rcases List.mem_append.mp hy with hy | hy
          · exact h2 y hy
          · rw [List.mem_singleton.mp hy]; exact hwf
        · intro j p hp
          by_cases hj : j < m
          · rw [List.getElem?_append_left (by omega)] at hp; exact h3 j p hp
          · have hjm : j = m := by
              have := (List.getElem?_eq_some_iff.mp hp).1
              simp at this; omega
            subst hjm
            rw [List.getElem?_append_right (by omega), h1] at hp
            simp at hp
            subst hp
            obtain ⟨hlen, hcell⟩ := cells_at hcs
            refine ⟨cs, by omega, hz, fun i u hu => ?_⟩
            have := hcell i u hu
            rw [hs] at this
            have e1 : (a.add (j * d.sz)).add i = a.add (j * d.sz + i) := by
              unfold Addr.add; split <;> split <;> simp_all <;> omega
            rw [← e1]; exact this
    obtain ⟨xs, h1, h2, h3⟩ := hlist len (Nat.le_refl _)
    subst h1
    exact ⟨some a, cap, xs, rfl, hl, ⟨rfl, by unfold maxLen at hm; omega, fun _ => ⟨a, rfl, h3⟩⟩, h2⟩
variable {cs : List Value} {x : DataW H × List MemPlace}
set_option maxRecDepth 100000 in
theorem posUnder : Tryd.prog.underlying 28 = some (.struct (fieldsOf 28)) := by kernel_rfl
set_option maxRecDepth 100000 in
theorem posSize : (fieldsOf 28).size = 2 := by kernel_rfl
set_option maxRecDepth 100000 in
theorem posEach : ∀ i, i < 2 → ∃ f, (fieldsOf 28)[i]? = some f ∧ Tryd.prog.underlying f.type = some (.int .i64) ∧ f.offset = i ∧ Tryd.prog.cellsOf f.type = 1 := by
  intro i hi
  have h : i = 0 ∨ i = 1 := by omega
  rcases h with rfl | rfl
  · exact field_int (by kernel_rfl)
  · exact field_int (by kernel_rfl)
set_option maxRecDepth 100000 in
theorem trod_pos {fuel : Nat} (h : DataW.trod enc Tryd.prog w base spare held fuel 28 cs = some x) : ∃ a b : Int, cs = [.int .i64 a, .int .i64 b] := by
  obtain ⟨zs, h1, h2, h3⟩ := trod_ints (k := .i64) posUnder (by rw [posSize]; kernel_rfl) (fun i f hf => by
    have hi : i < 2 := by
      have := (Array.getElem?_eq_some_iff.mp hf).1
      rw [posSize] at this; exact this
    obtain ⟨g, hg, r⟩ := posEach i hi
    rw [hf] at hg
    cases hg
    exact r) h
  rw [posSize] at h2
  match zs, h2 with
  | [a, b], _ => exact ⟨a, b, h1⟩
set_option maxRecDepth 100000 in
theorem exprUnder : Tryd.prog.underlying 31 = some (.struct (fieldsOf 31)) := by kernel_rfl
set_option maxRecDepth 100000 in
set_option maxHeartbeats 1000000 in
theorem trod_expr : ∀ (fuel : Nat) (cs : List Value) (x : DataW H × List MemPlace), DataW.trod enc Tryd.prog w base spare held fuel 31 cs = some x → ∃ e : S31, k31.K w e cs ∧ okE e := by
  intro fuel
  induction fuel using Nat.strongRecOn with
  | _ fuel ih =>
  intro cs x h
  obtain ⟨xs, n, rfl, _, hlen, hx, hel⟩ := DataW.trod_struct exprUnder h
  have hs : (fieldsOf 31).size = 6 := by kernel_rfl
  have hc : Tryd.prog.cellsOf 31 = 7 := by kernel_rfl
  rw [hc] at hlen
  rw [hs] at hx
  obtain ⟨f0, g0, t0, o0⟩ := field_at (fs := fieldsOf 31) (i := 0) (t := 26) (k := 0) (by kernel_rfl)
  have h0 := hel 0 f0 g0
  have k0 : Tryd.prog.cellsOf 26 = 1 := by kernel_rfl
  rw [t0, o0, k0, List.getElem?_eq_getElem (by omega)] at h0
  obtain ⟨f1, g1, t1, o1⟩ := field_at (fs := fieldsOf 31) (i := 1) (t := 28) (k := 1) (by kernel_rfl)
  have h1 := hel 1 f1 g1
  have k1 : Tryd.prog.cellsOf 28 = 2 := by kernel_rfl
  rw [t1, o1, k1, List.getElem?_eq_getElem (by omega)] at h1
  obtain ⟨f2, g2, t2, o2⟩ := field_at (fs := fieldsOf 31) (i := 2) (t := 2) (k := 3) (by kernel_rfl)
  have h2 := hel 2 f2 g2
  have k2 : Tryd.prog.cellsOf 2 = 1 := by kernel_rfl
  rw [t2, o2, k2, List.getElem?_eq_getElem (by omega)] at h2
  obtain ⟨f3, g3, t3, o3⟩ := field_at (fs := fieldsOf 31) (i := 3) (t := 9) (k := 4) (by kernel_rfl)
  have h3 := hel 3 f3 g3
  have k3 : Tryd.prog.cellsOf 9 = 1 := by kernel_rfl
  rw [t3, o3, k3, List.getElem?_eq_getElem (by omega)] at h3
  obtain ⟨f4, g4, t4, o4⟩ := field_at (fs := fieldsOf 31) (i := 4) (t := 24) (k := 5) (by kernel_rfl)
  have h4 := hel 4 f4 g4
  have k4 : Tryd.prog.cellsOf 24 = 1 := by kernel_rfl
  rw [t4, o4, k4, List.getElem?_eq_getElem (by omega)] at h4
  obtain ⟨f5, g5, t5, o5⟩ := field_at (fs := fieldsOf 31) (i := 5) (t := 29) (k := 6) (by kernel_rfl)
  have h5 := hel 5 f5 g5
  have k5 : Tryd.prog.cellsOf 29 = 1 := by kernel_rfl
  rw [t5, o5, k5, List.getElem?_eq_getElem (by omega)] at h5
  match cs, hlen with
  | [c0, c1, c2, c3, c4, c5, c6], _ =>
    obtain ⟨z0, e0, _, w0⟩ := DataW.trod_int Tryd.underlying26 h0
    obtain rfl : c0 = .int .i64 z0 := by simpa using e0
    obtain ⟨z1, y1, e1⟩ := trod_pos h1
    obtain ⟨rfl, rfl⟩ : c1 = .int .i64 z1 ∧ c2 = .int .i64 y1 := by simpa using e1
    obtain ⟨z2, e2, _, w2⟩ := DataW.trod_int Tryd.underlying2 h2
    obtain rfl : c3 = .int .i64 z2 := by simpa using e2
    obtain ⟨z3, e3, _, w3⟩ := DataW.trod_string Tryd.underlying9 h3
    obtain rfl : c4 = .string z3 := by simpa using e3
    obtain ⟨z4, e4, _, w4⟩ := DataW.trod_int Tryd.underlying24 h4
    obtain rfl : c5 = .int .i64 z4 := by simpa using e4
    obtain ⟨A5, d5, z5, e5, l5, r5, w5⟩ := trod_rowN k31 okE Tryd.underlying29 (by kernel_rfl) (fun n' hn cs x h => ih n' (by omega) cs x h) h5
    obtain rfl : c6 = .slice A5 z5.length d5 := by simpa using e5
    exact ⟨⟨z0, ⟨z1, y1⟩, z2, z3, z4, z5⟩, k31_mk w ⟨z0, ⟨z1, y1⟩, z2, z3, z4, z5⟩ l5 r5, by rw [okE]; exact ⟨i64_bounds w2, okL_all _ w5⟩⟩
set_option maxRecDepth 100000 in
theorem stmtUnder : Tryd.prog.underlying 38 = some (.struct (fieldsOf 38)) := by kernel_rfl
set_option maxRecDepth 100000 in
set_option maxHeartbeats 1000000 in
theorem trod_stmt : ∀ (fuel : Nat) (cs : List Value) (x : DataW H × List MemPlace), DataW.trod enc Tryd.prog w base spare held fuel 38 cs = some x → ∃ e : S38, k38.K w e cs ∧ okS e := by
  intro fuel
  induction fuel using Nat.strongRecOn with
  | _ fuel ih =>
  intro cs x h
  obtain ⟨xs, n, rfl, _, hlen, hx, hel⟩ := DataW.trod_struct stmtUnder h
  have hs : (fieldsOf 38).size = 6 := by kernel_rfl
  have hc : Tryd.prog.cellsOf 38 = 7 := by kernel_rfl
  rw [hc] at hlen
  rw [hs] at hx
  obtain ⟨f0, g0, t0, o0⟩ := field_at (fs := fieldsOf 38) (i := 0) (t := 35) (k := 0) (by kernel_rfl)
  have h0 := hel 0 f0 g0
  have k0 : Tryd.prog.cellsOf 35 = 1 := by kernel_rfl
  rw [t0, o0, k0, List.getElem?_eq_getElem (by omega)] at h0
  obtain ⟨f1, g1, t1, o1⟩ := field_at (fs := fieldsOf 38) (i := 1) (t := 28) (k := 1) (by kernel_rfl)
  have h1 := hel 1 f1 g1
  have k1 : Tryd.prog.cellsOf 28 = 2 := by kernel_rfl
  rw [t1, o1, k1, List.getElem?_eq_getElem (by omega)] at h1
  obtain ⟨f2, g2, t2, o2⟩ := field_at (fs := fieldsOf 38) (i := 2) (t := 9) (k := 3) (by kernel_rfl)
  have h2 := hel 2 f2 g2
  have k2 : Tryd.prog.cellsOf 9 = 1 := by kernel_rfl
  rw [t2, o2, k2, List.getElem?_eq_getElem (by omega)] at h2
  obtain ⟨f3, g3, t3, o3⟩ := field_at (fs := fieldsOf 38) (i := 3) (t := 29) (k := 4) (by kernel_rfl)
  have h3 := hel 3 f3 g3
  have k3 : Tryd.prog.cellsOf 29 = 1 := by kernel_rfl
  rw [t3, o3, k3, List.getElem?_eq_getElem (by omega)] at h3
  obtain ⟨f4, g4, t4, o4⟩ := field_at (fs := fieldsOf 38) (i := 4) (t := 36) (k := 5) (by kernel_rfl)
  have h4 := hel 4 f4 g4
  have k4 : Tryd.prog.cellsOf 36 = 1 := by kernel_rfl
  rw [t4, o4, k4, List.getElem?_eq_getElem (by omega)] at h4
  obtain ⟨f5, g5, t5, o5⟩ := field_at (fs := fieldsOf 38) (i := 5) (t := 36) (k := 6) (by kernel_rfl)
  have h5 := hel 5 f5 g5
  have k5 : Tryd.prog.cellsOf 36 = 1 := by kernel_rfl
  rw [t5, o5, k5, List.getElem?_eq_getElem (by omega)] at h5
  match cs, hlen with
  | [c0, c1, c2, c3, c4, c5, c6], _ =>
    obtain ⟨z0, e0, _, w0⟩ := DataW.trod_int Tryd.underlying35 h0
    obtain rfl : c0 = .int .i64 z0 := by simpa using e0
    obtain ⟨z1, y1, e1⟩ := trod_pos h1
    obtain ⟨rfl, rfl⟩ : c1 = .int .i64 z1 ∧ c2 = .int .i64 y1 := by simpa using e1
    obtain ⟨z2, e2, _, w2⟩ := DataW.trod_string Tryd.underlying9 h2
    obtain rfl : c3 = .string z2 := by simpa using e2
    obtain ⟨A3, d3, z3, e3, l3, r3, w3⟩ := trod_rowN k31 okE Tryd.underlying29 (by kernel_rfl) (fun n hn cs x h => trod_expr n cs x h) h3
    obtain rfl : c4 = .slice A3 z3.length d3 := by simpa using e3
    obtain ⟨A4, d4, z4, e4, l4, r4, w4⟩ := trod_rowN k38 okS Tryd.underlying36 (by kernel_rfl) (fun n' hn cs x h => ih n' (by omega) cs x h) h4
    obtain rfl : c5 = .slice A4 z4.length d4 := by simpa using e4
    obtain ⟨A5, d5, z5, e5, l5, r5, w5⟩ := trod_rowN k38 okS Tryd.underlying36 (by kernel_rfl) (fun n' hn cs x h => ih n' (by omega) cs x h) h5
    obtain rfl : c6 = .slice A5 z5.length d5 := by simpa using e5
    exact ⟨⟨z0, ⟨z1, y1⟩, z2, z3, z4, z5⟩, k38_mk w ⟨z0, ⟨z1, y1⟩, z2, z3, z4, z5⟩ l3 r3 l4 r4 l5 r5, by rw [okS]; exact ⟨okL_all _ w3, okSs_all _ w4, okSs_all _ w5⟩⟩
set_option maxRecDepth 100000 in
theorem globUnder : Tryd.prog.underlying 54 = some (.struct (fieldsOf 54)) := by kernel_rfl
set_option maxRecDepth 100000 in
set_option maxHeartbeats 1000000 in
theorem trod_glob : ∀ (fuel : Nat) (cs : List Value) (x : DataW H × List MemPlace), DataW.trod enc Tryd.prog w base spare held fuel 54 cs = some x → ∃ e : S54, k54.K w e cs ∧ okG e := by
  intro fuel
  induction fuel using Nat.strongRecOn with
  | _ fuel ih =>
  intro cs x h
  obtain ⟨xs, n, rfl, _, hlen, hx, hel⟩ := DataW.trod_struct globUnder h
  have hs : (fieldsOf 54).size = 4 := by kernel_rfl
  have hc : Tryd.prog.cellsOf 54 = 5 := by kernel_rfl
  rw [hc] at hlen
  rw [hs] at hx
  obtain ⟨f0, g0, t0, o0⟩ := field_at (fs := fieldsOf 54) (i := 0) (t := 9) (k := 0) (by kernel_rfl)
  have h0 := hel 0 f0 g0
  have k0 : Tryd.prog.cellsOf 9 = 1 := by kernel_rfl
  rw [t0, o0, k0, List.getElem?_eq_getElem (by omega)] at h0
  obtain ⟨f1, g1, t1, o1⟩ := field_at (fs := fieldsOf 54) (i := 1) (t := 52) (k := 1) (by kernel_rfl)
  have h1 := hel 1 f1 g1
  have k1 : Tryd.prog.cellsOf 52 = 1 := by kernel_rfl
  rw [t1, o1, k1, List.getElem?_eq_getElem (by omega)] at h1
  obtain ⟨f2, g2, t2, o2⟩ := field_at (fs := fieldsOf 54) (i := 2) (t := 3) (k := 2) (by kernel_rfl)
  have h2 := hel 2 f2 g2
  have k2 : Tryd.prog.cellsOf 3 = 1 := by kernel_rfl
  rw [t2, o2, k2, List.getElem?_eq_getElem (by omega)] at h2
  obtain ⟨f3, g3, t3, o3⟩ := field_at (fs := fieldsOf 54) (i := 3) (t := 28) (k := 3) (by kernel_rfl)
  have h3 := hel 3 f3 g3
  have k3 : Tryd.prog.cellsOf 28 = 2 := by kernel_rfl
  rw [t3, o3, k3, List.getElem?_eq_getElem (by omega)] at h3
  match cs, hlen with
  | [c0, c1, c2, c3, c4], _ =>
    obtain ⟨z0, e0, _, w0⟩ := DataW.trod_string Tryd.underlying9 h0
    obtain rfl : c0 = .string z0 := by simpa using e0
    obtain ⟨z1, e1, _, w1⟩ := DataW.trod_int Tryd.underlying52 h1
    obtain rfl : c1 = .int .i64 z1 := by simpa using e1
    obtain ⟨z2, e2, _, w2⟩ := DataW.trod_int Tryd.underlying3 h2
    obtain rfl : c2 = .int .i64 z2 := by simpa using e2
    obtain ⟨z3, y3, e3⟩ := trod_pos h3
    obtain ⟨rfl, rfl⟩ : c3 = .int .i64 z3 ∧ c4 = .int .i64 y3 := by simpa using e3
    exact ⟨⟨z0, z1, z2, ⟨z3, y3⟩⟩, k54_mk w ⟨z0, z1, z2, ⟨z3, y3⟩⟩, i64_bounds w1, i64_bounds w2⟩
set_option maxRecDepth 100000 in
theorem funcUnder : Tryd.prog.underlying 41 = some (.struct (fieldsOf 41)) := by kernel_rfl
set_option maxRecDepth 100000 in
set_option maxHeartbeats 1000000 in
theorem trod_func : ∀ (fuel : Nat) (cs : List Value) (x : DataW H × List MemPlace), DataW.trod enc Tryd.prog w base spare held fuel 41 cs = some x → ∃ e : S41, k41.K w e cs ∧ okF e := by
  intro fuel
  induction fuel using Nat.strongRecOn with
  | _ fuel ih =>
  intro cs x h
  obtain ⟨xs, n, rfl, _, hlen, hx, hel⟩ := DataW.trod_struct funcUnder h
  have hs : (fieldsOf 41).size = 4 := by kernel_rfl
  have hc : Tryd.prog.cellsOf 41 = 5 := by kernel_rfl
  rw [hc] at hlen
  rw [hs] at hx
  obtain ⟨f0, g0, t0, o0⟩ := field_at (fs := fieldsOf 41) (i := 0) (t := 9) (k := 0) (by kernel_rfl)
  have h0 := hel 0 f0 g0
  have k0 : Tryd.prog.cellsOf 9 = 1 := by kernel_rfl
  rw [t0, o0, k0, List.getElem?_eq_getElem (by omega)] at h0
  obtain ⟨f1, g1, t1, o1⟩ := field_at (fs := fieldsOf 41) (i := 1) (t := 39) (k := 1) (by kernel_rfl)
  have h1 := hel 1 f1 g1
  have k1 : Tryd.prog.cellsOf 39 = 1 := by kernel_rfl
  rw [t1, o1, k1, List.getElem?_eq_getElem (by omega)] at h1
  obtain ⟨f2, g2, t2, o2⟩ := field_at (fs := fieldsOf 41) (i := 2) (t := 36) (k := 2) (by kernel_rfl)
  have h2 := hel 2 f2 g2
  have k2 : Tryd.prog.cellsOf 36 = 1 := by kernel_rfl
  rw [t2, o2, k2, List.getElem?_eq_getElem (by omega)] at h2
  obtain ⟨f3, g3, t3, o3⟩ := field_at (fs := fieldsOf 41) (i := 3) (t := 28) (k := 3) (by kernel_rfl)
  have h3 := hel 3 f3 g3
  have k3 : Tryd.prog.cellsOf 28 = 2 := by kernel_rfl
  rw [t3, o3, k3, List.getElem?_eq_getElem (by omega)] at h3
  match cs, hlen with
  | [c0, c1, c2, c3, c4], _ =>
    obtain ⟨z0, e0, _, w0⟩ := DataW.trod_string Tryd.underlying9 h0
    obtain rfl : c0 = .string z0 := by simpa using e0
    obtain ⟨A1, d1, z1, e1, l1, r1, w1⟩ := trod_rowN Kd.string (fun _ => True) Tryd.underlying39 (by kernel_rfl) (fun n hn cs x h => by obtain ⟨s, hs, _, _⟩ := DataW.trod_string Tryd.underlying9 h; exact ⟨s, hs, trivial⟩) h1
    obtain rfl : c1 = .slice A1 z1.length d1 := by simpa using e1
    obtain ⟨A2, d2, z2, e2, l2, r2, w2⟩ := trod_rowN k38 okS Tryd.underlying36 (by kernel_rfl) (fun n hn cs x h => trod_stmt n cs x h) h2
    obtain rfl : c2 = .slice A2 z2.length d2 := by simpa using e2
    obtain ⟨z3, y3, e3⟩ := trod_pos h3
    obtain ⟨rfl, rfl⟩ : c3 = .int .i64 z3 ∧ c4 = .int .i64 y3 := by simpa using e3
    exact ⟨⟨z0, z1, z2, ⟨z3, y3⟩⟩, k41_mk w ⟨z0, z1, z2, ⟨z3, y3⟩⟩ l1 r1 l2 r2, okSs_all _ w2⟩
set_option maxRecDepth 100000 in
theorem progUnder : Tryd.prog.underlying 45 = some (.struct (fieldsOf 45)) := by kernel_rfl
set_option maxRecDepth 100000 in
set_option maxHeartbeats 1000000 in
theorem trod_prog : ∀ (fuel : Nat) (cs : List Value) (x : DataW H × List MemPlace), DataW.trod enc Tryd.prog w base spare held fuel 45 cs = some x → ∃ A0 d0, ∃ z0 : List S54, ∃ A1 d1, ∃ z1 : List S41, cs = [.slice A0 z0.length d0, .slice A1 z1.length d1] ∧ z0.length ≤ d0 ∧ z1.length ≤ d1 ∧ Kd.C k54 w A0 z0.length z0 ∧ Kd.C k41 w A1 z1.length z1 ∧ (∀ g ∈ z0, okG g) ∧ (∀ f ∈ z1, okF f) := by
  intro fuel
  induction fuel using Nat.strongRecOn with
  | _ fuel ih =>
  intro cs x h
  obtain ⟨xs, n, rfl, _, hlen, hx, hel⟩ := DataW.trod_struct progUnder h
  have hs : (fieldsOf 45).size = 2 := by kernel_rfl
  have hc : Tryd.prog.cellsOf 45 = 2 := by kernel_rfl
  rw [hc] at hlen
  rw [hs] at hx
  obtain ⟨f0, g0, t0, o0⟩ := field_at (fs := fieldsOf 45) (i := 0) (t := 43) (k := 0) (by kernel_rfl)
  have h0 := hel 0 f0 g0
  have k0 : Tryd.prog.cellsOf 43 = 1 := by kernel_rfl
  rw [t0, o0, k0, List.getElem?_eq_getElem (by omega)] at h0
  obtain ⟨f1, g1, t1, o1⟩ := field_at (fs := fieldsOf 45) (i := 1) (t := 42) (k := 1) (by kernel_rfl)
  have h1 := hel 1 f1 g1
  have k1 : Tryd.prog.cellsOf 42 = 1 := by kernel_rfl
  rw [t1, o1, k1, List.getElem?_eq_getElem (by omega)] at h1
  match cs, hlen with
  | [c0, c1], _ =>
    obtain ⟨A0, d0, z0, e0, l0, r0, w0⟩ := trod_rowN k54 okG Tryd.underlying43 (by kernel_rfl) (fun n hn cs x h => trod_glob n cs x h) h0
    obtain rfl : c0 = .slice A0 z0.length d0 := by simpa using e0
    obtain ⟨A1, d1, z1, e1, l1, r1, w1⟩ := trod_rowN k41 okF Tryd.underlying42 (by kernel_rfl) (fun n hn cs x h => trod_func n cs x h) h1
    obtain rfl : c1 = .slice A1 z1.length d1 := by simpa using e1
    exact ⟨A0, d0, z0, A1, d1, z1, rfl, l0, l1, r0, r1, w0, w1⟩
set_option maxRecDepth 100000 in
theorem open_expr {v : Value} {d : DataW H} {p : List MemPlace} (h : Arg enc Tryd.prog w 31 v d p) : ∃ (e : S31) (A : Option Addr) (c : Nat), v = .agg #[.int .i64 e.f0, .int .i64 e.f1.f0, .int .i64 e.f1.f1, .int .i64 e.f2, .string e.f3, .int .i64 e.f4, .slice A e.f5.length c] ∧ e.f5.length ≤ c ∧ Kd.C k31 w A e.f5.length e.f5 ∧ okE e := by
  obtain ⟨fuel, hr⟩ := h.read
  obtain ⟨e, hK, hok⟩ := trod_expr _ _ _ hr
  obtain ⟨A, c, he, hl, hC⟩ := k31_open hK
  exact ⟨e, A, c, agg_of_cells he (by simp), hl, hC, hok⟩
set_option maxRecDepth 100000 in
theorem open_stmts {v : Value} {d : DataW H} {p : List MemPlace} (h : Arg enc Tryd.prog w 36 v d p) : ∃ A c, ∃ l : List S38, v = .slice A l.length c ∧ l.length ≤ c ∧ Kd.C k38 w A l.length l ∧ ∀ s ∈ l, okS s := by
  obtain ⟨fuel, hr⟩ := h.read
  obtain ⟨A, c, l, hcs, h1, h2, h3⟩ := trod_rowN k38 okS Tryd.underlying36 (by kernel_rfl) (fun n hn cs x h => trod_stmt n cs x h) hr
  obtain ⟨b, hok⟩ := h.ok
  obtain ⟨a', b', c', rfl⟩ := Go.WideShapes.okWide_slice Tryd.underlying36 hok
  simp only [Value.cells] at hcs
  cases hcs
  exact ⟨_, _, l, rfl, h1, h2, h3⟩
set_option maxRecDepth 100000 in
theorem open_prog {v : Value} {d : DataW H} {p : List MemPlace} (h : Arg enc Tryd.prog w 45 v d p) : ∃ A0 d0, ∃ gs : List S54, ∃ A1 d1, ∃ fs : List S41, v = .agg #[.slice A0 gs.length d0, .slice A1 fs.length d1] ∧ gs.length ≤ d0 ∧ fs.length ≤ d1 ∧ Kd.C k54 w A0 gs.length gs ∧ Kd.C k41 w A1 fs.length fs ∧ (∀ g ∈ gs, okG g) ∧ (∀ f ∈ fs, okF f) := by
  obtain ⟨fuel, hr⟩ := h.read
  obtain ⟨A0, d0, gs, A1, d1, fs, he, h1, h2, h3, h4, h5, h6⟩ := trod_prog _ _ _ hr
  exact ⟨A0, d0, gs, A1, d1, fs, agg_of_cells he (by simp), h1, h2, h3, h4, h5, h6⟩
end
end Go.Proofs.YtaammdmaldodaaaDoor.B
