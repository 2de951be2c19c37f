/- What comes in, with its bulk. -/
import Derived.Test.YtaammdmaldodaaaDoorAstProgP
import Derived.Test.YtaammdmaldodaaaDoorRows
namespace Go.Proofs.YtaammdmaldodaaaDoor.B
open Go.RowKit Go.Proofs.YtaammdmaldodaaaDoor.Mine Go.Proofs.YtaammdmaldodaaaDoorW.PrintWords Go.Proofs.YtaammdmaldodaaaDoorW.PrintLast Go.Proofs.YtaammdmaldodaaaDoorW.PrintMore
set_option linter.unusedSimpArgs false
set_option linter.unusedVariables false
mutual
/-- How many statements, all within counted. -/
def nS : S38 → Nat
  | ⟨_, _, _, _, th, el⟩ => 1 + nSs th + nSs el
def nSs : List S38 → Nat
  | [] => 0
  | s :: r => nS s + nSs r
end
theorem nSs_sum (k : Nat) : ∀ l : List S38, (l.map (fun s => k * nS s)).sum = k * nSs l
  | [] => by simp [nSs]
  | s :: r => by rw [List.map_cons, List.sum_cons, nSs_sum k r, nSs, Nat.mul_add]
theorem bulk_pos {H : Type} (d : DataW H) : 1 ≤ Rows.uptoBulk d := by
  cases d with
  | lit l => cases l <;> simp [Rows.uptoBulk]
  | nil => simp [Rows.uptoBulk]
  | ptr d => simp [Rows.uptoBulk]
  | slice elems spare => simp [Rows.uptoBulk]
  | agg parts => simp [Rows.uptoBulk]
  | iface t d => simp [Rows.uptoBulk]
  | map entries => simp [Rows.uptoBulk]
  | held h => simp [Rows.uptoBulk]
theorem bulk_app {H : Type} (l r : List (DataW H)) : Rows.uptoBulkAll (l ++ r) = Rows.uptoBulkAll l + Rows.uptoBulkAll r := by
  induction l with
  | nil => simp [Rows.uptoBulkAll]
  | cons x l ih => simp only [List.cons_append, Rows.uptoBulkAll, ih]; omega
theorem bulk6 {H : Type} {xs : List (DataW H × List MemPlace)} (h : xs.length = 6) : Rows.uptoBulkAll (xs.map (·.1)) = Rows.uptoBulk xs[0].1 + Rows.uptoBulk xs[1].1 + Rows.uptoBulk xs[2].1 + Rows.uptoBulk xs[3].1 + Rows.uptoBulk xs[4].1 + Rows.uptoBulk xs[5].1 := by
  match xs, h with
  | [a, b, c, d, e, f], _ => simp only [List.map_cons, List.map_nil, Rows.uptoBulkAll, List.getElem_cons_zero, List.getElem_cons_succ]; omega
theorem bulk4 {H : Type} {xs : List (DataW H × List MemPlace)} (h : xs.length = 4) : Rows.uptoBulkAll (xs.map (·.1)) = Rows.uptoBulk xs[0].1 + Rows.uptoBulk xs[1].1 + Rows.uptoBulk xs[2].1 + Rows.uptoBulk xs[3].1 := by
  match xs, h with
  | [a, b, c, d], _ => simp only [List.map_cons, List.map_nil, Rows.uptoBulkAll, List.getElem_cons_zero, List.getElem_cons_succ]; omega
theorem bulk2 {H : Type} {xs : List (DataW H × List MemPlace)} (h : xs.length = 2) : Rows.uptoBulkAll (xs.map (·.1)) = Rows.uptoBulk xs[0].1 + Rows.uptoBulk xs[1].1 := by
  match xs, h with
  | [a, b], _ => simp only [List.map_cons, List.map_nil, Rows.uptoBulkAll, List.getElem_cons_zero, List.getElem_cons_succ]; omega
section
variable {H : Type} {enc : TypeId × Value → H} {w : World} {base : Nat} {spare : Nat → Bool} {held : Bool}
theorem trod_rowB {P : Program} {fuel : Nat} {t e : TypeId} {cs : List Value} {x : DataW H × List MemPlace} {α : Type} (d : Kd α) (Wf : α → Prop) (mm : α → Nat) (ht : P.underlying t = some (.slice e)) (hs : P.cellsOf e = d.sz)
    (he : ∀ n, n < fuel → ∀ cs x, DataW.trod enc P w base spare held n e cs = some x → ∃ a, d.K w a cs ∧ Wf a ∧ mm a ≤ Rows.uptoBulk x.1)
    (h : DataW.trod enc P w base spare held fuel t cs = some x) : ∃ A c, ∃ xs : List α, cs = [.slice A xs.length c] ∧ xs.length ≤ c ∧ Kd.C d w A xs.length xs ∧ (∀ a ∈ xs, Wf a) ∧ (xs.map mm).sum + 1 ≤ Rows.uptoBulk x.1 := by
  rcases DataW.trod_slice ht h with ⟨rfl, rfl⟩ | ⟨a, len, cap, elems, rest, n, rfl, rfl, rfl, _, hl, hm, hn, hel, _⟩
  · exact ⟨none, 0, [], rfl, Nat.le_refl _, ⟨rfl, by simp, fun h => by simp at h⟩, (fun _ h => by cases h), by simp [Rows.uptoBulk]⟩
  · have hall : ∀ i (hi : i < len), ∃ z cs, d.K w z cs ∧ Wf z ∧ mm z ≤ Rows.uptoBulk (elems[i]'(by omega)).1 ∧ w.cells? base (a.add (i * P.cellsOf e)) (P.cellsOf e) = some cs := by
      intro i hi
      have h1 := hel i hi
      rw [List.getElem?_eq_getElem (by omega : i < elems.length), Option.bind_eq_some_iff] at h1
      obtain ⟨cs, h2, h3⟩ := h1
      obtain ⟨z, hz, hwf, hbk⟩ := he _ (by omega) _ _ h3
      exact ⟨z, cs, hz, hwf, hbk, h2⟩
    have hlist : ∀ m, m ≤ len → ∃ xs : List α, xs.length = m ∧ (∀ z ∈ xs, Wf z) ∧ (xs.map mm).sum ≤ Rows.uptoBulkAll ((elems.take m).map (·.1)) ∧ ∀ j p, xs[j]? = some p → ∃ c, c.length = d.sz ∧ d.K w p c ∧ ∀ i u, c[i]? = some u → w.cell? (a.add (j * d.sz + i)) = some u := by
      intro m
      induction m with
      | zero => intro _; exact ⟨[], rfl, (fun _ h => by cases h), by simp, fun j p h => by simp at h⟩
      | succ m ih =>
        intro hm
        obtain ⟨xs, h1, h2, h4, h3⟩ := ih (by omega)
        obtain ⟨z, cs, hz, hwf, hbk, hcs⟩ := hall m (by omega)
        refine ⟨xs ++ [z], by simp [h1], ?_, ?_, ?_⟩
        · intro y hy
          rcases List.mem_append.mp hy with hy | hy
          · exact h2 y hy
          · rw [List.mem_singleton.mp hy]; exact hwf
        · rw [List.take_succ_eq_append_getElem (by omega), List.map_append, List.sum_append, List.map_append, bulk_app]
          simp only [List.map_cons, List.map_nil, List.sum_cons, List.sum_nil, Rows.uptoBulkAll]
          omega
        · intro j p hp
          by_cases hj : j < m
          · rw [List.getElem?_append_left (by omega)] at hp; exact h3 j p hp
          · have hjm : j = m := by
              have := (List.getElem?_eq_some_iff.mp hp).1
              simp at this; omega
            subst hjm
            rw [List.getElem?_append_right (by omega), h1] at hp
            simp at hp
            subst hp
            obtain ⟨hlen, hcell⟩ := cells_at hcs
            refine ⟨cs, by omega, hz, fun i u hu => ?_⟩
            have := hcell i u hu
            rw [hs] at this
            have e1 : (a.add (j * d.sz)).add i = a.add (j * d.sz + i) := by
              unfold Addr.add; split <;> split <;> simp_all <;> omega
            rw [← e1]; exact this
    obtain ⟨xs, h1, h2, h4, h3⟩ := hlist len (Nat.le_refl _)
    subst h1
    rw [show elems.take xs.length = elems from List.take_of_length_le (by omega)] at h4
    exact ⟨some a, cap, xs, rfl, hl, ⟨rfl, by unfold maxLen at hm; omega, fun _ => ⟨a, rfl, h3⟩⟩, h2, by simp only [Rows.uptoBulk]; omega⟩
variable {cs : List Value} {x : DataW H × List MemPlace}
set_option maxRecDepth 100000 in
set_option maxHeartbeats 1000000 in
theorem trod_stmtB : ∀ (fuel : Nat) (cs : List Value) (x : DataW H × List MemPlace), DataW.trod enc Tryd.prog w base spare held fuel 38 cs = some x → ∃ e : S38, k38.K w e cs ∧ okS e ∧ 7 * nS e ≤ Rows.uptoBulk x.1 := by
  intro fuel
  induction fuel using Nat.strongRecOn with
  | _ fuel ih =>
  intro cs x h
  obtain ⟨xs, n, rfl, rfl, hlen, hx, hel⟩ := DataW.trod_struct stmtUnder h
  have hs : (fieldsOf 38).size = 6 := by kernel_rfl
  have hc : Tryd.prog.cellsOf 38 = 7 := by kernel_rfl
  rw [hc] at hlen
  rw [hs] at hx
  obtain ⟨f0, g0, t0, o0⟩ := field_at (fs := fieldsOf 38) (i := 0) (t := 35) (k := 0) (by kernel_rfl)
  have h0 := hel 0 f0 g0
  have k0 : Tryd.prog.cellsOf 35 = 1 := by kernel_rfl
  rw [t0, o0, k0, List.getElem?_eq_getElem (by omega)] at h0
  obtain ⟨f1, g1, t1, o1⟩ := field_at (fs := fieldsOf 38) (i := 1) (t := 28) (k := 1) (by kernel_rfl)
  have h1 := hel 1 f1 g1
  have k1 : Tryd.prog.cellsOf 28 = 2 := by kernel_rfl
  rw [t1, o1, k1, List.getElem?_eq_getElem (by omega)] at h1
  obtain ⟨f2, g2, t2, o2⟩ := field_at (fs := fieldsOf 38) (i := 2) (t := 9) (k := 3) (by kernel_rfl)
  have h2 := hel 2 f2 g2
  have k2 : Tryd.prog.cellsOf 9 = 1 := by kernel_rfl
  rw [t2, o2, k2, List.getElem?_eq_getElem (by omega)] at h2
  obtain ⟨f3, g3, t3, o3⟩ := field_at (fs := fieldsOf 38) (i := 3) (t := 29) (k := 4) (by kernel_rfl)
  have h3 := hel 3 f3 g3
  have k3 : Tryd.prog.cellsOf 29 = 1 := by kernel_rfl
  rw [t3, o3, k3, List.getElem?_eq_getElem (by omega)] at h3
  obtain ⟨f4, g4, t4, o4⟩ := field_at (fs := fieldsOf 38) (i := 4) (t := 36) (k := 5) (by kernel_rfl)
  have h4 := hel 4 f4 g4
  have k4 : Tryd.prog.cellsOf 36 = 1 := by kernel_rfl
  rw [t4, o4, k4, List.getElem?_eq_getElem (by omega)] at h4
  obtain ⟨f5, g5, t5, o5⟩ := field_at (fs := fieldsOf 38) (i := 5) (t := 36) (k := 6) (by kernel_rfl)
  have h5 := hel 5 f5 g5
  have k5 : Tryd.prog.cellsOf 36 = 1 := by kernel_rfl
  rw [t5, o5, k5, List.getElem?_eq_getElem (by omega)] at h5
  match cs, hlen with
  | [c0, c1, c2, c3, c4, c5, c6], _ =>
    obtain ⟨z0, e0, _, w0⟩ := DataW.trod_int Tryd.underlying35 h0
    obtain rfl : c0 = .int .i64 z0 := by simpa using e0
    obtain ⟨z1, y1, e1⟩ := trod_pos h1
    obtain ⟨rfl, rfl⟩ : c1 = .int .i64 z1 ∧ c2 = .int .i64 y1 := by simpa using e1
    obtain ⟨z2, e2, _, w2⟩ := DataW.trod_string Tryd.underlying9 h2
    obtain rfl : c3 = .string z2 := by simpa using e2
    obtain ⟨A3, d3, z3, e3, l3, r3, w3⟩ := trod_rowN k31 okE Tryd.underlying29 (by kernel_rfl) (fun n hn cs x h => trod_expr n cs x h) h3
    obtain rfl : c4 = .slice A3 z3.length d3 := by simpa using e3
    obtain ⟨A4, d4, z4, e4, l4, r4, w4, b4⟩ := trod_rowB k38 okS (fun s => 7 * nS s) Tryd.underlying36 (by kernel_rfl) (fun n' hn cs x h => ih n' (by omega) cs x h) h4
    obtain rfl : c5 = .slice A4 z4.length d4 := by simpa using e4
    obtain ⟨A5, d5, z5, e5, l5, r5, w5, b5⟩ := trod_rowB k38 okS (fun s => 7 * nS s) Tryd.underlying36 (by kernel_rfl) (fun n' hn cs x h => ih n' (by omega) cs x h) h5
    obtain rfl : c6 = .slice A5 z5.length d5 := by simpa using e5
    exact ⟨⟨z0, ⟨z1, y1⟩, z2, z3, z4, z5⟩, k38_mk w ⟨z0, ⟨z1, y1⟩, z2, z3, z4, z5⟩ l3 r3 l4 r4 l5 r5, by rw [okS]; exact ⟨okL_all _ w3, okSs_all _ w4, okSs_all _ w5⟩, by
      rw [nSs_sum] at b4 b5
      have h6 := bulk6 (xs := xs) (by omega)
      have p0 := bulk_pos xs[0].1
      have p1 := bulk_pos xs[1].1
      have p2 := bulk_pos xs[2].1
      have p3 := bulk_pos xs[3].1
      rw [nS]
      simp only [Rows.uptoBulk]
      omega⟩
set_option maxRecDepth 100000 in
set_option maxHeartbeats 1000000 in
theorem trod_funcB : ∀ (fuel : Nat) (cs : List Value) (x : DataW H × List MemPlace), DataW.trod enc Tryd.prog w base spare held fuel 41 cs = some x → ∃ e : S41, k41.K w e cs ∧ okF e ∧ 7 * nSs e.f2 ≤ Rows.uptoBulk x.1 := by
  intro fuel
  induction fuel using Nat.strongRecOn with
  | _ fuel ih =>
  intro cs x h
  obtain ⟨xs, n, rfl, rfl, hlen, hx, hel⟩ := DataW.trod_struct funcUnder h
  have hs : (fieldsOf 41).size = 4 := by kernel_rfl
  have hc : Tryd.prog.cellsOf 41 = 5 := by kernel_rfl
  rw [hc] at hlen
  rw [hs] at hx
  obtain ⟨f0, g0, t0, o0⟩ := field_at (fs := fieldsOf 41) (i := 0) (t := 9) (k := 0) (by kernel_rfl)
  have h0 := hel 0 f0 g0
  have k0 : Tryd.prog.cellsOf 9 = 1 := by kernel_rfl
  rw [t0, o0, k0, List.getElem?_eq_getElem (by omega)] at h0
  obtain ⟨f1, g1, t1, o1⟩ := field_at (fs := fieldsOf 41) (i := 1) (t := 39) (k := 1) (by kernel_rfl)
  have h1 := hel 1 f1 g1
  have k1 : Tryd.prog.cellsOf 39 = 1 := by kernel_rfl
  rw [t1, o1, k1, List.getElem?_eq_getElem (by omega)] at h1
  obtain ⟨f2, g2, t2, o2⟩ := field_at (fs := fieldsOf 41) (i := 2) (t := 36) (k := 2) (by kernel_rfl)
  have h2 := hel 2 f2 g2
  have k2 : Tryd.prog.cellsOf 36 = 1 := by kernel_rfl
  rw [t2, o2, k2, List.getElem?_eq_getElem (by omega)] at h2
  obtain ⟨f3, g3, t3, o3⟩ := field_at (fs := fieldsOf 41) (i := 3) (t := 28) (k := 3) (by kernel_rfl)
  have h3 := hel 3 f3 g3
  have k3 : Tryd.prog.cellsOf 28 = 2 := by kernel_rfl
  rw [t3, o3, k3, List.getElem?_eq_getElem (by omega)] at h3
  match cs, hlen with
  | [c0, c1, c2, c3, c4], _ =>
    obtain ⟨z0, e0, _, w0⟩ := DataW.trod_string Tryd.underlying9 h0
    obtain rfl : c0 = .string z0 := by simpa using e0
    obtain ⟨A1, d1, z1, e1, l1, r1, w1⟩ := trod_rowN Kd.string (fun _ => True) Tryd.underlying39 (by kernel_rfl) (fun n hn cs x h => by obtain ⟨s, hs, _, _⟩ := DataW.trod_string Tryd.underlying9 h; exact ⟨s, hs, trivial⟩) h1
    obtain rfl : c1 = .slice A1 z1.length d1 := by simpa using e1
    obtain ⟨A2, d2, z2, e2, l2, r2, w2, b2⟩ := trod_rowB k38 okS (fun s => 7 * nS s) Tryd.underlying36 (by kernel_rfl) (fun n hn cs x h => trod_stmtB n cs x h) h2
    obtain rfl : c2 = .slice A2 z2.length d2 := by simpa using e2
    obtain ⟨z3, y3, e3⟩ := trod_pos h3
    obtain ⟨rfl, rfl⟩ : c3 = .int .i64 z3 ∧ c4 = .int .i64 y3 := by simpa using e3
    exact ⟨⟨z0, z1, z2, ⟨z3, y3⟩⟩, k41_mk w ⟨z0, z1, z2, ⟨z3, y3⟩⟩ l1 r1 l2 r2, okSs_all _ w2, by
      rw [nSs_sum] at b2
      have h4 := bulk4 (xs := xs) (by omega)
      simp only [Rows.uptoBulk]
      omega⟩
set_option maxRecDepth 100000 in
set_option maxHeartbeats 1000000 in
theorem trod_progB : ∀ (fuel : Nat) (cs : List Value) (x : DataW H × List MemPlace), DataW.trod enc Tryd.prog w base spare held fuel 45 cs = some x → ∃ A0 d0, ∃ z0 : List S54, ∃ A1 d1, ∃ z1 : List S41, cs = [.slice A0 z0.length d0, .slice A1 z1.length d1] ∧ z0.length ≤ d0 ∧ z1.length ≤ d1 ∧ Kd.C k54 w A0 z0.length z0 ∧ Kd.C k41 w A1 z1.length z1 ∧ (∀ g ∈ z0, okG g) ∧ (∀ f ∈ z1, okF f) ∧ (z1.map fun f => 7 * nSs f.f2).sum ≤ Rows.uptoBulk x.1 := by
  intro fuel
  induction fuel using Nat.strongRecOn with
  | _ fuel ih =>
  intro cs x h
  obtain ⟨xs, n, rfl, rfl, hlen, hx, hel⟩ := DataW.trod_struct progUnder h
  have hs : (fieldsOf 45).size = 2 := by kernel_rfl
  have hc : Tryd.prog.cellsOf 45 = 2 := by kernel_rfl
  rw [hc] at hlen
  rw [hs] at hx
  obtain ⟨f0, g0, t0, o0⟩ := field_at (fs := fieldsOf 45) (i := 0) (t := 43) (k := 0) (by kernel_rfl)
  have h0 := hel 0 f0 g0
  have k0 : Tryd.prog.cellsOf 43 = 1 := by kernel_rfl
  rw [t0, o0, k0, List.getElem?_eq_getElem (by omega)] at h0
  obtain ⟨f1, g1, t1, o1⟩ := field_at (fs := fieldsOf 45) (i := 1) (t := 42) (k := 1) (by kernel_rfl)
  have h1 := hel 1 f1 g1
  have k1 : Tryd.prog.cellsOf 42 = 1 := by kernel_rfl
  rw [t1, o1, k1, List.getElem?_eq_getElem (by omega)] at h1
  match cs, hlen with
  | [c0, c1], _ =>
    obtain ⟨A0, d0, z0, e0, l0, r0, w0⟩ := trod_rowN k54 okG Tryd.underlying43 (by kernel_rfl) (fun n hn cs x h => trod_glob n cs x h) h0
    obtain rfl : c0 = .slice A0 z0.length d0 := by simpa using e0
    obtain ⟨A1, d1, z1, e1, l1, r1, w1, b1⟩ := trod_rowB k41 okF (fun f => 7 * nSs f.f2) Tryd.underlying42 (by kernel_rfl) (fun n hn cs x h => trod_funcB n cs x h) h1
    obtain rfl : c1 = .slice A1 z1.length d1 := by simpa using e1
    exact ⟨A0, d0, z0, A1, d1, z1, rfl, l0, l1, r0, r1, w0, w1, by
      have h2 := bulk2 (xs := xs) (by omega)
      simp only [Rows.uptoBulk]
      omega⟩
set_option maxRecDepth 100000 in
set_option maxHeartbeats 1000000 in
theorem open_progB {v : Value} {d : DataW H} {p : List MemPlace} (h : Arg enc Tryd.prog w 45 v d p) : ∃ A0 d0, ∃ gs : List S54, ∃ A1 d1, ∃ fs : List S41, v = .agg #[.slice A0 gs.length d0, .slice A1 fs.length d1] ∧ gs.length ≤ d0 ∧ fs.length ≤ d1 ∧ Kd.C k54 w A0 gs.length gs ∧ Kd.C k41 w A1 fs.length fs ∧ (∀ g ∈ gs, okG g) ∧ (∀ f ∈ fs, okF f) ∧ (fs.map fun f => 7 * nSs f.f2).sum ≤ Rows.uptoBulk d := by
  obtain ⟨fuel, hr⟩ := h.read
  obtain ⟨A0, d0, gs, A1, d1, fs, he, h1, h2, h3, h4, h5, h6, h7⟩ := trod_progB _ _ _ hr
  exact ⟨A0, d0, gs, A1, d1, fs, agg_of_cells he (by simp), h1, h2, h3, h4, h5, h6, h7⟩
end
end Go.Proofs.YtaammdmaldodaaaDoor.B
