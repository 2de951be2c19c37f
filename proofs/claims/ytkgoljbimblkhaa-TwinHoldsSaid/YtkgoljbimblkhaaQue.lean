/- Worlds part by part: rows that begin anywhere in their block, and parts that are there for some value. -/
import Derived.Test.YtkgoljbimblkhaaSep
import Derived.Test.YtkgoljbimblkhaaSep2
namespace Go.Proofs.Ytkgoljbimblkhaa.Sep
open Go.RowKit Go.Proofs.Ytkgoljbimblkhaa.Mine Go.Proofs.Ytkgoljbimblkhaa.Copy Go.Proofs.YtkgoljbimblkhaaW.PrintWords Go.Proofs.YtkgoljbimblkhaaW.PrintLast Go.Proofs.YtkgoljbimblkhaaW.PrintMore
set_option linter.unusedVariables false
set_option linter.unusedSimpArgs false
/-- Some value's part. -/
def ex {β : Type} (f : β → Chunk) : Chunk where
  is := fun w s => ∃ b, (f b).is w s
  move := fun ⟨b, h⟩ hm => ⟨b, (f b).move h hm⟩
  bound := fun ⟨b, h⟩ => ⟨b, (f b).bound h⟩
  mono := fun ⟨b, h⟩ hs => ⟨b, (f b).mono h hs⟩
/-- A fact. -/
def pur (φ : Prop) : Chunk where
  is := fun _ _ => φ
  move := fun h _ => h
  bound := fun h => h
  mono := fun h _ => h
section
variable {W0 w w1 : World} {L : List Chunk}
theorem Sat.swapIs {c c' : Chunk} (HS : Sat W0 w (c :: L)) (h : ∀ s, c.is w s → c'.is w s) : Sat W0 w (c' :: L) := by
  obtain ⟨h1, h2, h3, h4, F, hF, hD⟩ := HS
  refine ⟨h1, h2, h3, h4, F, fun i d hi => ?_, hD⟩
  cases i with
  | zero => obtain rfl := Option.some.inj hi; exact h _ (hF 0 c rfl)
  | succ i => exact hF (i + 1) d (by simpa using hi)
theorem Sat.openEx {β : Type} {f : β → Chunk} (HS : Sat W0 w (ex f :: L)) : ∃ b, Sat W0 w (f b :: L) := by
  obtain ⟨h1, h2, h3, h4, F, hF, hD⟩ := HS
  obtain ⟨b, hb⟩ := hF 0 _ rfl
  refine ⟨b, h1, h2, h3, h4, F, fun i d hi => ?_, hD⟩
  cases i with
  | zero => obtain rfl := Option.some.inj hi; exact hb
  | succ i => exact hF (i + 1) d (by simpa using hi)
theorem Sat.closeEx {β : Type} {f : β → Chunk} (b : β) (HS : Sat W0 w (f b :: L)) : Sat W0 w (ex f :: L) := HS.swapIs fun s h => ⟨b, h⟩
theorem Sat.fact {φ : Prop} (HS : Sat W0 w L) (i : Nat) (hi : L[i]? = some (pur φ)) : φ := by
  obtain ⟨_, _, _, _, F, hF, _⟩ := HS
  exact hF i _ hi
theorem Sat.addFact {φ : Prop} (h : φ) (HS : Sat W0 w L) : Sat W0 w (pur φ :: L) := HS.new (Below.refl _ _) h
end
theorem flat_get {sz : Nat} : ∀ (xs : List (List Value)) (i k : Nat) (x : List Value) (u : Value), (∀ y ∈ xs, y.length = sz) → xs[i]? = some x → x[k]? = some u → xs.flatten[i * sz + k]? = some u
  | [], i, k, x, u, _, h, _ => by simp at h
  | y :: r, 0, k, x, u, hl, h, h2 => by
    have e : y = x := by simpa using h
    subst e
    rw [List.flatten_cons, Nat.zero_mul, Nat.zero_add, List.getElem?_append_left (List.getElem?_eq_some_iff.1 h2).1]
    exact h2
  | y :: r, i + 1, k, x, u, hl, h, h2 => by
    have hy := hl y (List.mem_cons_self ..)
    rw [List.flatten_cons, List.getElem?_append_right (by rw [hy, Nat.add_mul]; omega), hy, show (i + 1) * sz + k - sz = i * sz + k by rw [Nat.add_mul]; omega]
    exact flat_get r i k x u (fun z hz => hl z (List.mem_cons_of_mem _ hz)) (by simpa using h) h2
theorem flat_of {sz : Nat} (hs : 0 < sz) : ∀ (xs : List (List Value)) (j : Nat) (u : Value), (∀ y ∈ xs, y.length = sz) → xs.flatten[j]? = some u → ∃ i k x, j = i * sz + k ∧ xs[i]? = some x ∧ x[k]? = some u
  | [], j, u, _, h => by simp at h
  | y :: r, j, u, hl, h => by
    have hy := hl y (List.mem_cons_self ..)
    rw [List.flatten_cons] at h
    by_cases hj : j < sz
    · rw [List.getElem?_append_left (by omega)] at h
      exact ⟨0, j, y, by omega, rfl, h⟩
    · rw [List.getElem?_append_right (by omega), hy] at h
      obtain ⟨i, k, x, h1, h2, h3⟩ := flat_of hs r (j - sz) u (fun z hz => hl z (List.mem_cons_of_mem _ hz)) h
      exact ⟨i + 1, k, x, by rw [Nat.add_mul]; omega, by simpa using h2, h3⟩
theorem flat_len {sz : Nat} : ∀ (xs : List (List Value)), (∀ y ∈ xs, y.length = sz) → xs.flatten.length = xs.length * sz
  | [], _ => by simp
  | y :: r, hl => by
    rw [List.flatten_cons, List.length_append, hl y (List.mem_cons_self ..), flat_len r (fun z hz => hl z (List.mem_cons_of_mem _ hz)), List.length_cons, Nat.add_mul]
    omega
/-- A row of elements of sz cells each, wherever in its block. -/
def que (e sz : Nat) (v : Value) (xs : List (List Value)) : Chunk where
  is := fun w s => (∃ A, v = .slice A 0 0 ∧ xs = []) ∨ ∃ g o cap cur, v = .slice (some ⟨g, o, none⟩) xs.length cap ∧ 0 < cap ∧ xs.length ≤ cap ∧ s g ∧ w.heap[g]? = some (.cells cur e (0, 0)) ∧ o + cap * sz ≤ cur.size ∧
    (∀ x ∈ xs, x.length = sz) ∧ ∀ j u, xs.flatten[j]? = some u → cur[o + j]? = some u
  move := by
    rintro w w1 s (h | ⟨g, o, cap, cur, h1, h2, h3, h4, h5, h6, h7⟩) hm
    · exact .inl h
    · exact .inr ⟨g, o, cap, cur, h1, h2, h3, h4, (hm g h4 (blk_lt h5)).trans h5, h6, h7⟩
  bound := by
    rintro w s (h | ⟨g, o, cap, cur, h1, h2, h3, h4, h5, h6, h7⟩)
    · exact .inl h
    · exact .inr ⟨g, o, cap, cur, h1, h2, h3, ⟨h4, blk_lt h5⟩, h5, h6, h7⟩
  mono := by
    rintro w s s' (h | ⟨g, o, cap, cur, h1, h2, h3, h4, h5, h6, h7⟩) hs
    · exact .inl h
    · exact .inr ⟨g, o, cap, cur, h1, h2, h3, hs _ h4, h5, h6, h7⟩
section
variable {W0 w w1 : World} {L : List Chunk} {e sz : Nat} {v : Value} {xs : List (List Value)} {A : Option Addr} {n c : Nat}
theorem Sat.queIs (HS : Sat W0 w L) (i : Nat) (hi : L[i]? = some (que e sz v xs)) : ∃ s, (que e sz v xs).is w s := by
  obtain ⟨_, _, _, _, F, hF, _⟩ := HS
  exact ⟨_, hF i _ hi⟩
theorem Sat.queSlice (HS : Sat W0 w L) (i : Nat) (hi : L[i]? = some (que e sz v xs)) : ∃ A c, v = .slice A xs.length c ∧ xs.length ≤ c := by
  obtain ⟨s, h⟩ := HS.queIs i hi
  rcases h with ⟨A, rfl, rfl⟩ | ⟨g, o, cap, cur, rfl, h2, h3, _⟩
  · exact ⟨A, 0, rfl, Nat.le_refl _⟩
  · exact ⟨_, cap, rfl, h3⟩
theorem Sat.queAll (HS : Sat W0 w L) (i : Nat) (hi : L[i]? = some (que e sz (.slice A n c) xs)) (hn : 0 < n) : ∃ ad, A = some ad ∧ (∀ x ∈ xs, x.length = sz) ∧ ∀ j u, xs.flatten[j]? = some u → w.cell? (ad.add j) = some u := by
  obtain ⟨s, h⟩ := HS.queIs i hi
  rcases h with ⟨A', h1, rfl⟩ | ⟨g, o, cap, cur, h1, h2, h3, h4, h5, h6, h7, h8⟩
  · injection h1 with _ h1 _; omega
  · injection h1 with h1 _ _
    refine ⟨_, h1, h7, fun j u hj => ?_⟩
    have hadd : (⟨g, o, none⟩ : Addr).add j = ⟨g, o + j, none⟩ := by unfold Addr.add; split <;> simp_all
    rw [hadd, cell_of_row w g (o + j) cur e (0, 0) h5]
    exact h8 j u hj
theorem Sat.queGet (HS : Sat W0 w L) (i : Nat) (hi : L[i]? = some (que e sz (.slice A n c) xs)) (k : Int) (h0 : 0 ≤ k) (h1 : k < (n : Int)) :
    ∃ ad x, A = some ad ∧ xs[k.toNat]? = some x ∧ x.length = sz ∧ ∀ j u, x[j]? = some u → w.cell? (ad.add (k.toNat * sz + j)) = some u := by
  obtain ⟨A', c', e1, _⟩ := HS.queSlice i hi
  injection e1 with _ e1 _
  obtain ⟨ad, rfl, h7, h8⟩ := HS.queAll i hi (by omega)
  have hk : k.toNat < xs.length := by omega
  have hx : xs[k.toNat]? = some xs[k.toNat] := List.getElem?_eq_getElem hk
  exact ⟨ad, _, rfl, hx, h7 _ (List.getElem_mem hk), fun j u hj => h8 _ u (flat_get xs _ j _ u h7 hx hj)⟩
theorem Sat.queNil (HS : Sat W0 w L) (e sz : Nat) (A : Option Addr) : Sat W0 w (que e sz (.slice A 0 0) [] :: L) := HS.new (Below.refl _ _) (.inl ⟨A, rfl, rfl⟩)
/-- v[1:]. -/
theorem Sat.queTail {x : List Value} (HS : Sat W0 w L) (i : Nat) (hi : L[i]? = some (que e sz (.slice A n c) (x :: xs))) : Sat W0 w (L.set i (que e sz (.slice (if c = 1 then A else A.map (·.add (1 * sz))) (n - 1) (c - 1)) xs)) := by
  refine HS.upd i hi fun s h => ⟨⟨rfl, rfl, rfl, Nat.le_refl _, fun _ _ _ => rfl⟩, ?_⟩
  rcases h with ⟨A', h1, h2⟩ | ⟨g, o, cap, cur, h1, h2, h3, h4, h5, h6, h7, h8⟩
  · cases h2
  · injection h1 with e1 e2 e3
    subst e1 e2 e3
    simp only [List.length_cons] at h3
    by_cases hc : c = 1
    · have : xs = [] := List.eq_nil_of_length_eq_zero (by omega)
      subst this
      subst hc
      exact .inl ⟨_, rfl, rfl⟩
    · have hadd : (⟨g, o, none⟩ : Addr).add (1 * sz) = ⟨g, o + sz, none⟩ := by rw [Nat.one_mul]; unfold Addr.add; split <;> simp_all
      rw [if_neg hc]
      have hx := h7 x (List.mem_cons_self ..)
      have hcs : c * sz = sz + (c - 1) * sz := by
        obtain ⟨d, rfl⟩ : ∃ d, c = d + 1 := ⟨c - 1, by omega⟩
        rw [Nat.add_sub_cancel, Nat.add_mul]
        omega
      refine .inr ⟨g, o + sz, c - 1, cur, by rw [Option.map_some, hadd]; simp, by omega, by omega, .inl h4, h5, by omega, fun y hy => h7 y (List.mem_cons_of_mem _ hy), fun j u hj => ?_⟩
      have := h8 (sz + j) u (by rw [List.flatten_cons, List.getElem?_append_right (by omega), hx, Nat.add_sub_cancel_left]; exact hj)
      rw [Nat.add_assoc]
      exact this
end
section
variable {P : Program} {W0 w : World} {L : List Chunk} {e sz : Nat} {v : Value} {xs : List (List Value)}
theorem run_append_roomAt (w : World) (t ty e : TypeId) (i : TypeInfo) (ht : P.underlying t = some (.slice e)) (hi : P.info? e = some i)
    (g o sLen sCap : Nat) (cur : Array Value) (hg : w.heap[g]? = some (.cells cur e (0, 0)))
    (a : Addr) (m c : Nat) (news : List Value) (hl : news.length = m * i.size) (hnews : ∀ j u, news[j]? = some u → w.cell? (a.add j) = some u) (h1 : ∀ u ∈ news, u.oneCell' = true)
    (hroom : sLen + m ≤ sCap) (hfit : o + sLen * i.size + news.length ≤ cur.size) :
    (Builtin.append_ #[t, t] ty #[.slice (some ⟨g, o, none⟩) sLen sCap, .slice (some a) m c]).run P w =
      .ok (.slice (some ⟨g, o, none⟩) (sLen + m) sCap) (w.setRow g (cur.toList.take (o + sLen * i.size) ++ news ++ cur.toList.drop (o + sLen * i.size + news.length)).toArray) := by
  have hf := run_firstCells_some (P := P) w i.size m a m c news hl hnews
  have hst := run_storeCells_at P g (o + sLen * i.size) e news 0 cur w hg (by simpa using hfit) h1
  have hadd : (⟨g, o, none⟩ : Addr).add (sLen * i.size) = ⟨g, o + sLen * i.size, none⟩ := by unfold Addr.add; split <;> simp_all
  simp only [Nat.add_zero] at hst
  simp [Builtin.append_, run_underlying ht, sizeOf, typeInfo, hi, Builtin.lenOf, hroom, hf, hadd, hst]
/-- append(v, ys...), at least one: what comes of it, whatever the memory. -/
theorem run_que_append (HS : Sat W0 w L) (i : Nat) (hi : L[i]? = some (que e sz v xs)) (t : TypeId) (z : Value) (bytes : Nat) (ht : P.underlying t = some (.slice e)) (hinfo : (P.info? e).map (fun i => (i.zero, i.size, i.bytes)) = some (some z, sz, bytes)) (hz : z.cells.size = sz) (hs0 : 0 < sz)
    (ys : List (List Value)) (hy : ∀ y ∈ ys, y.length = sz) (hpos : 0 < ys.length) (ad : Addr) (c : Nat) (hnews : ∀ j u, ys.flatten[j]? = some u → w.cell? (ad.add j) = some u) (h1 : ∀ u ∈ ys.flatten, u.oneCell' = true) (hb : (xs.length + ys.length) * bytes ≤ 140737488355328) (hb0 : 0 < bytes) :
    ∃ v' w', (∀ ty, (Builtin.append_ #[t, t] ty #[v, .slice (some ad) ys.length c]).run P w = .ok v' w') ∧ Sat W0 w' (L.set i (que e sz v' (xs ++ ys))) := by
  cases hq : P.info? e with
  | none => rw [hq] at hinfo; simp at hinfo
  | some ii =>
  rw [hq] at hinfo
  simp only [Option.map_some, Option.some.injEq, Prod.mk.injEq] at hinfo
  obtain ⟨hzero, hsize, hbytes⟩ := hinfo
  subst hsize
  subst hbytes
  have hfl := flat_len ys hy
  have hsm : xs.length + ys.length ≤ 140737488355328 := Nat.le_trans (Nat.le_mul_of_pos_right _ hb0) hb
  obtain ⟨s, hq0⟩ := HS.queIs i hi
  -- a new block
  have fresh : ∀ (old : Nat) (olds : List (List Value)), olds = xs → (∀ x ∈ olds, x.length = ii.size) → Sat W0 (w.drew.alloc (.cells (olds.flatten.toArray ++ ys.flatten.toArray ++ Builtin.zeroCells z.cells (grownCap w (xs.length + ys.length) old e - (xs.length + ys.length))) e))
      (L.set i (que e ii.size (.slice (some ⟨w.heap.size, 0, none⟩) (xs.length + ys.length) (grownCap w (xs.length + ys.length) old e)) (xs ++ ys))) := by
    intro old olds he ho
    subst he
    have hge := grownCap_ge w (olds.length + ys.length) old e
    refine HS.upd i hi fun s _ => ⟨⟨rfl, rfl, rfl, by simp, fun k hk _ => heap_alloc_old w.drew _ hk⟩, ?_⟩
    have hall : ∀ x ∈ olds ++ ys, x.length = ii.size := fun x hx => by
      rcases List.mem_append.1 hx with h | h
      · exact ho x h
      · exact hy x h
    refine .inr ⟨w.heap.size, 0, _, _, by rw [List.length_append], by omega, by rw [List.length_append]; omega, .inr (Nat.le_refl _), heap_alloc_new w.drew _, ?_, hall, fun j u hj => ?_⟩
    · simp only [Array.size_append, List.size_toArray, size_zeroCells, hz, flat_len olds ho, hfl, ← Nat.add_mul, Nat.zero_add]
      apply Nat.mul_le_mul_right
      omega
    · have hjl := (List.getElem?_eq_some_iff.1 hj).1
      rw [List.flatten_append] at hj hjl
      rw [Nat.zero_add, Array.getElem?_append_left (by simpa using hjl), ← Array.getElem?_toList, Array.toList_append]
      exact hj
  rcases hq0 with ⟨A, rfl, rfl⟩ | ⟨g, o, cap, cur, rfl, h2, h3, h4, h5, h6, h7, h8⟩
  · cases A with
    | none =>
      have hr := fun ty => run_append_nil (P := P) w t ty e ii z ht hq hzero ad ys.length c ys.flatten hfl hnews hpos (by omega) (by have := hb; simp only [List.length_nil, Nat.zero_add] at this; omega)
      have hf := fresh 0 [] rfl (by simp)
      simp only [List.length_nil, Nat.zero_add, List.flatten_nil, List.nil_append, Array.empty_append] at hf hr ⊢
      exact ⟨_, _, hr, hf⟩
    | some b =>
      have hr := fun ty => run_append_grow (P := P) w t ty e ii z ht hq hzero b 0 0 [] (by simp) (by simp) ad ys.length c ys.flatten hfl hnews (by omega) (by omega) (growslice_fits (by omega) (by have := hb; simpa using this))
      have hf := fresh 0 [] rfl (by simp)
      simp only [List.length_nil, Nat.zero_add, List.flatten_nil, List.nil_append, Array.empty_append] at hf hr ⊢
      exact ⟨_, _, hr, hf⟩
  · by_cases hroom : xs.length + ys.length ≤ cap
    · have hm : (xs.length + ys.length) * ii.size ≤ cap * ii.size := Nat.mul_le_mul_right _ hroom
      rw [Nat.add_mul] at hm
      have hxl := flat_len xs h7
      have hr := fun ty => run_append_roomAt (P := P) w t ty e ii ht hq g o xs.length cap cur h5 ad ys.length c ys.flatten hfl hnews h1 hroom (by rw [hfl]; omega)
      refine ⟨_, _, hr, HS.upd i hi fun s' hs' => ?_⟩
      have hsg : s' g := by
        rcases hs' with ⟨A', e1, _⟩ | ⟨g', o', cap', cur', e1, _, _, e4, _⟩
        · injection e1 with _ _ e1; omega
        · injection e1 with e1 _ _; injection e1 with e1; injection e1 with e1 _ _; rw [e1]; exact e4
      refine ⟨⟨rfl, rfl, rfl, by simp, fun k hk hns => setRow_other w g k _ (fun e => hns (by rw [e]; exact hsg))⟩, .inr ⟨g, o, cap, _, by rw [List.length_append], h2, by rw [List.length_append]; exact hroom, .inl hsg, setRow_heap w g cur _ e _ h5, ?_, ?_, ?_⟩⟩
      · simp only [List.size_toArray, List.length_append, List.length_take, List.length_drop, Array.length_toList, hfl]
        omega
      · intro x hx
        rcases List.mem_append.1 hx with h | h
        · exact h7 x h
        · exact hy x h
      · intro j u hj
        rw [List.flatten_append] at hj
        have hlt : (cur.toList.take (o + xs.length * ii.size)).length = o + xs.length * ii.size := by have := Array.length_toList (xs := cur); rw [List.length_take]; omega
        rw [List.getElem?_toArray]
        by_cases hjx : j < xs.flatten.length
        · rw [List.getElem?_append_left hjx] at hj
          rw [List.append_assoc, List.getElem?_append_left (by rw [hlt]; omega), List.getElem?_take, if_pos (by omega), Array.getElem?_toList]
          exact h8 j u hj
        · rw [List.getElem?_append_right (by omega)] at hj
          have hjl := (List.getElem?_eq_some_iff.1 hj).1
          rw [List.append_assoc, List.getElem?_append_right (by rw [hlt]; omega), hlt, show o + j - (o + xs.length * ii.size) = j - xs.flatten.length by omega, List.getElem?_append_left hjl]
          exact hj
    · have hr := fun ty => run_append_grow (P := P) w t ty e ii z ht hq hzero ⟨g, o, none⟩ xs.length cap xs.flatten (flat_len xs h7) (fun j u hj => by
          have hadd : (⟨g, o, none⟩ : Addr).add j = ⟨g, o + j, none⟩ := by unfold Addr.add; split <;> simp_all
          rw [hadd, cell_of_row w g (o + j) cur e (0, 0) h5]
          exact h8 j u hj) ad ys.length c ys.flatten hfl hnews (by omega) (by omega) (growslice_fits (by omega) hb)
      exact ⟨_, _, hr, fresh cap xs rfl h7⟩
end
section
variable {P : Program} {ops : Array Oper} {rest : List Oper} {o : Oper} {a : Act} {Q : Exit → Act → World → Prop} {Kc : Act → World → Prop} {W0 w : World} {L : List Chunk} {e sz : Nat} {v : Value} {xs : List (List Value)}
/-- append(v, one element), the element in a literal's block, the front part; the block goes. -/
theorem ev_qapp_step {g2 t2 : Nat} {cs : Array Value} (HS : Sat W0 w (blk g2 t2 cs :: L)) (i : Nat) (hi : L[i]? = some (que e sz v xs)) (s x : Operand) (t : TypeId) (z : Value) (bytes c : Nat) (hw : Region.wanted o (yielded ops a.tmps) = true) {N : Tmp} (hd : o.dst = some N)
    (ho : o.op = .call { callee := .builtin .append, args := #[s, x], argTypes := #[t, t] }) (hs : a.eval s = v) (hx : a.eval x = .slice (some ⟨g2, 0, none⟩) 1 c)
    (ht : P.underlying t = some (.slice e)) (hinfo : (P.info? e).map (fun i => (i.zero, i.size, i.bytes)) = some (some z, sz, bytes)) (hz : z.cells.size = sz) (hs0 : 0 < sz) (hcs : cs.size = sz) (h1 : ∀ u ∈ cs.toList, u.oneCell' = true) (hb : (xs.length + 1) * bytes ≤ 140737488355328) (hb0 : 0 < bytes)
    (h : ∀ v1 w1, Sat W0 w1 (L.set i (que e sz v1 (xs ++ [cs.toList]))) → Kc (a.put (some N) v1) w1) : if Region.wanted o (yielded ops a.tmps) = true then Oper.wp P o a w Kc Q else Kc (a.put (some N) undef) w := by
  obtain ⟨v', w', hr, HS'⟩ := run_que_append (P := P) HS (i + 1) (by simpa using hi) t z bytes ht hinfo hz hs0 [cs.toList] (by simp [hcs]) (by simp) ⟨g2, 0, none⟩ c (fun j u hj => by
    have hadd : (⟨g2, 0, none⟩ : Addr).add j = ⟨g2, j, none⟩ := by unfold Addr.add; split <;> simp_all
    rw [hadd, HS.cell 0 rfl j]
    simpa using hj) (by simpa using h1) hb hb0
  rw [if_pos hw]
  unfold Oper.wp execOp
  simp only [List.length_singleton] at hr
  simp only [ho, resolve, invoke, builtin, Sem.run_bind, Sem.run_pure, Result.andThen_ok, List.map_toArray, List.map_cons, List.map_nil, hs, hx, hr]
  show Kc (a.put o.dst v') w'
  rw [hd]
  refine h _ _ ?_
  rw [List.set_cons_succ] at HS'
  exact HS'.tail
/-- A literal of one element, as a block. -/
theorem ev_slit_step (HS : Sat W0 w L) (hw : Region.wanted o (yielded ops a.tmps) = true) {N : Tmp} (hd : o.dst = some N) {cs : Array Value} {t : TypeId}
    (hrun : (execOp a.eval o).run P w = .ok (.value (.slice (some ⟨w.heap.size, 0, none⟩) 1 1)) (w.alloc (.cells cs t (0, 0))))
    (h : ∀ g w1, Sat W0 w1 (blk g t cs :: L) → Kc (a.put (some N) (.slice (some ⟨g, 0, none⟩) 1 1)) w1) : if Region.wanted o (yielded ops a.tmps) = true then Oper.wp P o a w Kc Q else Kc (a.put (some N) undef) w := by
  rw [if_pos hw]
  unfold Oper.wp
  rw [hrun]
  show Kc (a.put o.dst _) _
  rw [hd]
  exact h _ _ (HS.alloc t cs)
/-- append of all of a row, the j-th part, to the i-th. -/
theorem ev_qapps {A : Option Addr} {n c : Nat} {ys : List (List Value)} (HS : Sat W0 w L) (i j : Nat) (hi : L[i]? = some (que e sz v xs)) (hj : L[j]? = some (que e sz (.slice A n c) ys)) (hn : 0 < n) (s x : Operand) (t : TypeId) (z : Value) (bytes : Nat) (hgd : o.guard = none)
    (ho : o.op = .call { callee := .builtin .append, args := #[s, x], argTypes := #[t, t] }) (hs : a.eval s = v) (hx : a.eval x = .slice A n c)
    (ht : P.underlying t = some (.slice e)) (hinfo : (P.info? e).map (fun i => (i.zero, i.size, i.bytes)) = some (some z, sz, bytes)) (hz : z.cells.size = sz) (hs0 : 0 < sz) (h1 : ∀ u ∈ ys.flatten, u.oneCell' = true) (hb : (xs.length + ys.length) * bytes ≤ 140737488355328) (hb0 : 0 < bytes)
    (h : ∀ v1 w1, Sat W0 w1 (L.set i (que e sz v1 (xs ++ ys))) → wpList P ops Q rest (a.put o.dst v1) w1) : wpList P ops Q (o :: rest) a w := by
  obtain ⟨A', c', e1, _⟩ := HS.queSlice j hj
  injection e1 with _ e1 _
  subst e1
  obtain ⟨ad, rfl, hy, hcell⟩ := HS.queAll j hj hn
  obtain ⟨v', w', hr, HS'⟩ := run_que_append (P := P) HS i hi t z bytes ht hinfo hz hs0 ys hy hn ad c hcell h1 hb hb0
  refine wpList_plain hgd fun K hK => ?_
  unfold Oper.wp execOp
  simp only [ho, resolve, invoke, builtin, Sem.run_bind, Sem.run_pure, Result.andThen_ok, List.map_toArray, List.map_cons, List.map_nil, hs, hx, hr]
  exact hK _ _ (h _ _ HS')
end
end Go.Proofs.Ytkgoljbimblkhaa.Sep
