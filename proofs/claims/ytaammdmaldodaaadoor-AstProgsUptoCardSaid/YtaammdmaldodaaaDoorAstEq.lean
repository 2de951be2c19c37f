/- Same: trees that are alike, wherever they stand. -/
import Derived.Test.YtaammdmaldodaaaDoorAstHead
import Derived.Test.YtaammdmaldodaaaDoorBx7
namespace Go.Proofs.YtaammdmaldodaaaDoor.B
open Go.RowKit Go.Proofs.YtaammdmaldodaaaDoor.Mine Go.Proofs.YtaammdmaldodaaaDoor.Sep Go.Proofs.YtaammdmaldodaaaDoorW.PrintWords Go.Proofs.YtaammdmaldodaaaDoorW.PrintLast Go.Proofs.YtaammdmaldodaaaDoorW.PrintMore
set_option linter.unusedVariables false
set_option linter.unusedSimpArgs false
/-- Two lists are alike, element by element. -/
def allB {α : Type} (f : α → α → Bool) : List α → List α → Bool
  | [], [] => true
  | x :: a, y :: b => f x y && allB f a b
  | [], _ :: _ => false
  | _ :: _, [] => false
theorem allB_len {α : Type} (f : α → α → Bool) : ∀ (l m : List α), l.length ≠ m.length → allB f l m = false
  | [], [], h => absurd rfl h
  | [], _ :: _, _ => rfl
  | _ :: _, [], _ => rfl
  | x :: a, y :: b, h => by rw [allB, allB_len f a b (fun e => h (by simp [e])), Bool.and_false]
theorem allB_at {α : Type} (f : α → α → Bool) {l m : List α} {i : Nat} (h1 : i < l.length) (h2 : i < m.length) : allB f (l.drop i) (m.drop i) = (f l[i] m[i] && allB f (l.drop (i + 1)) (m.drop (i + 1))) := by
  rw [List.drop_eq_getElem_cons h1, List.drop_eq_getElem_cons h2, allB]
theorem allB_end {α : Type} (f : α → α → Bool) {l m : List α} {i : Nat} (h1 : l.length ≤ i) (h2 : m.length ≤ i) : allB f (l.drop i) (m.drop i) = true := by
  rw [List.drop_eq_nil_of_le h1, List.drop_eq_nil_of_le h2, allB]
mutual
def sameE : S31 → S31 → Bool
  | ⟨k, _, num, name, op, kids⟩, ⟨k', _, num', name', op', kids'⟩ => (k == k') && ((num == num') && ((name.toList == name'.toList) && ((op == op') && sameEs kids kids')))
def sameEs : List S31 → List S31 → Bool
  | [], [] => true
  | x :: a, y :: b => sameE x y && sameEs a b
  | [], _ :: _ => false
  | _ :: _, [] => false
end
theorem sameEs_all : ∀ l m, sameEs l m = allB sameE l m
  | [], [] => by rw [sameEs, allB]
  | x :: a, y :: b => by rw [sameEs, allB, sameEs_all a b]
  | [], _ :: _ => by rw [sameEs, allB]
  | _ :: _, [] => by rw [sameEs, allB]
theorem sameE_eq (x y : S31) : sameE x y = ((x.f0 == y.f0) && ((x.f2 == y.f2) && ((x.f3.toList == y.f3.toList) && ((x.f4 == y.f4) && allB sameE x.f5 y.f5)))) := by
  cases x; cases y; rw [sameE, sameEs_all]
mutual
def sameS : S38 → S38 → Bool
  | ⟨k, _, name, es, th, el⟩, ⟨k', _, name', es', th', el'⟩ => (k == k') && ((name.toList == name'.toList) && (allB sameE es es' && (sameSs th th' && sameSs el el')))
def sameSs : List S38 → List S38 → Bool
  | [], [] => true
  | x :: a, y :: b => sameS x y && sameSs a b
  | [], _ :: _ => false
  | _ :: _, [] => false
end
theorem sameSs_all : ∀ l m, sameSs l m = allB sameS l m
  | [], [] => by rw [sameSs, allB]
  | x :: a, y :: b => by rw [sameSs, allB, sameSs_all a b]
  | [], _ :: _ => by rw [sameSs, allB]
  | _ :: _, [] => by rw [sameSs, allB]
theorem sameS_eq (x y : S38) : sameS x y = ((x.f0 == y.f0) && ((x.f2.toList == y.f2.toList) && (allB sameE x.f3 y.f3 && (allB sameS x.f4 y.f4 && allB sameS x.f5 y.f5)))) := by
  cases x; cases y; rw [sameS, sameSs_all, sameSs_all]
def sameG (x y : S54) : Bool := (x.f0.toList == y.f0.toList) && ((x.f1 == y.f1) && (x.f2 == y.f2))
def strB (x y : ByteArray) : Bool := x.toList == y.toList
def sameF (x y : S41) : Bool := (x.f0.toList == y.f0.toList) && (allB strB x.f1 y.f1 && allB sameS x.f2 y.f2)
theorem at_str {w : World} {A : Option Addr} {n : Nat} {xs : List ByteArray} (h : Kd.C Kd.string w A n xs) (i : Int) (h0 : 0 ≤ i) (h1 : i < n) : ∃ ad, A = some ad ∧ w.cell? (ad.add i.toNat) = some (.string (xs.getD i.toNat default)) := by
  obtain ⟨ad, cs, e, _, hK, hc⟩ := Kd.C_get h (default : ByteArray) i h0 h1
  refine ⟨ad, e, ?_⟩
  obtain rfl : cs = [.string (xs.getD i.toNat default)] := hK
  have h2 := hc 0 _ rfl
  rw [show (i.toNat * Kd.string.sz + 0) = i.toNat by simp [Kd.string, Kd.scalar]] at h2
  exact h2
def SameEC (x : S31) : Prop := ∀ (y : S31) (W : World) (cx cy : List Value), k31.K W x cx → k31.K W y cy → Calls Tryd.prog 11 #[.agg cx.toArray, .agg cy.toArray] W fun r w' => r = .returned (.bool (sameE x y)) ∧ Below W.heap.size W w'
theorem rdE' {l : List S31} {i : Nat} (h : i < l.length) : rd_T31 l (i : Int) = l[i] := by
  unfold rd_T31; rw [Int.toNat_natCast, List.getD_eq_getElem?_getD, List.getElem?_eq_getElem h]; rfl
set_option maxRecDepth 100000 in
set_option maxHeartbeats 2000000 in
theorem eqfE_calls {l m : List S31} {A A' : Option Addr} {c c' : Nat} (hs : ∀ x ∈ l, SameEC x) (W : World) (hA : Kd.C k31 W A l.length l) (hB : Kd.C k31 W A' m.length m) :
    Calls Tryd.prog 23 #[.slice A l.length c, .slice A' m.length c', .func (.func 11) #[] #[]] W fun e w' => e = .returned (.bool (allB sameE l m)) ∧ Below W.heap.size W w' := by
  have HS := Sat.start W
  by_cases hlm : l.length = m.length
  · have e0 : ((l.length : Int) != (m.length : Int)) = false := by rw [hlm]; simp
    have e0' : (l.length != m.length) = false := by rw [hlm]; simp
    have HLM := Aside0.mk hlm
    have HSS := Aside0.mk hs
    have HLL := Aside0.mk hA.2.1
    have HA := Aside0.mk hA
    have HB := Aside0.mk hB
    clear hlm hs hA hB
    go_enter Tryd.func23, Tryd.ntmps23
    go_wp2
    go_loopg [17] (l.length + 1) (fun kq v17 w' => ∃ (i : Nat), v17 = .int .i64 (i : Int) ∧ Aside0 (i ≤ l.length ∧ l.length + 1 ≤ kq + i ∧ allB sameE l m = allB sameE (l.drop i) (m.drop i)) ∧ Aside0 (Sat W w' [old W]))
    case atStart => exact ⟨0, rfl, ⟨by omega, by omega, rfl⟩, ⟨HS⟩⟩
    case round =>
      clear HS
      obtain ⟨i, rfl, HI, HS'⟩ := hrel
      have HS := HS'.out
      clear HS'
      cases gk with
      | zero => have := HI.out; omega
      | succ k1 =>
        by_cases hk : i < l.length
        · have hkm : i < m.length := by have := HLM.out; omega
          obtain ⟨I, hI_⟩ : ∃ I : Int, (i : Int) = I := ⟨_, rfl⟩
          have p1 : 0 ≤ I := by omega
          have q1 : I < (l.length : Int) := by omega
          have q2 : I < (m.length : Int) := by omega
          have c1_ : decide (I < (l.length : Int)) = true := decide_eq_true q1
          have hbw := HS.old 0 rfl
          obtain ⟨adp, Ap6, cp6, rfl, x0, x1, x2, x3, x4, x5, x6, lp6, gp6⟩ := at_T31 HA.out I p1 q1
          obtain ⟨adq, Aq6, cq6, rfl, y0, y1, y2, y3, y4, y5, y6, lq6, gq6⟩ := at_T31 HB.out I p1 q2
          replace x0 := cell_below x0 hbw
          replace x1 := cell_below x1 hbw
          replace x2 := cell_below x2 hbw
          replace x3 := cell_below x3 hbw
          replace x4 := cell_below x4 hbw
          replace x5 := cell_below x5 hbw
          replace x6 := cell_below x6 hbw
          have hq : rd_T31 l I = l[i] := by rw [← hI_]; exact rdE' hk
          have hr : rd_T31 m I = m[i] := by rw [← hI_]; exact rdE' hkm
          obtain ⟨q, hqq⟩ : ∃ q, q = rd_T31 l I := ⟨_, rfl⟩
          obtain ⟨r, hrr⟩ : ∃ r, r = rd_T31 m I := ⟨_, rfl⟩
          rw [← hqq] at x0 x1 x2 x3 x4 x5 x6 lp6 gp6 hq
          rw [← hrr] at y0 y1 y2 y3 y4 y5 y6 lq6 gq6 hr
          have HX := Aside0.mk (fun (w : World) (hb : Below W.heap.size W w) => HSS.out q (by rw [hq]; exact List.getElem_mem hk) r w _ _ (k31_mk w q lp6 (Kd.C_below gp6 hb)) (k31_mk w r lq6 (Kd.C_below gq6 hb)))
          have hst : allB sameE l m = (sameE q r && allB sameE (l.drop (i + 1)) (m.drop (i + 1))) := by rw [HI.out.2.2, allB_at _ hk hkm, hq, hr]
          have hwi : wrap64 (I + 1) = I + 1 := w64 _ (by omega) (by have := HLL.out; omega)
          obtain ⟨b, hb0⟩ : ∃ b, b = sameE q r := ⟨_, rfl⟩
          rw [← hb0] at HX hst
          have HII := Aside0.mk (show (i : Int) = I ∧ i < l.length ∧ _ from ⟨hI_, hk, hst⟩)
          rw [hI_]
          clear hq hqq hr hrr hI_ hk hkm hbw hst hb0 gp6 gq6 
          have Y0 := Aside0.mk y0
          have Y1 := Aside0.mk y1
          have Y2 := Aside0.mk y2
          have Y3 := Aside0.mk y3
          have Y4 := Aside0.mk y4
          have Y5 := Aside0.mk y5
          have Y6 := Aside0.mk y6
          clear y0 y1 y2 y3 y4 y5 y6
          have r1 := eq_true p1
          have r2 := eq_true q1
          have r3 := eq_true q2
          go_upto_region 6 with (first | ((with_reducible refine gate_dst (N := 8) rfl ?_); go_must (refine ev_box HS rfl (N := 8) rfl (cs := #[.int .i64 0, .int .i64 0, .int .i64 0, .int .i64 0, .string ⟨#[]⟩, .int .i64 0, .slice none 0 0]) (t := 31) ?hrun ?_); (case hrun => first | (go_simp; done) | (go_simp; rfl)); clear HS; intro g8 w HS) | ((with_reducible refine gate_store (t := 31) (p := 8) rfl ?_); go_must (refine ev_store HS 0 rfl rfl 31 (.tmp 8) (.tmp 21) rfl rfl rfl [.int .i64 q.f0, .int .i64 q.f1.f0, .int .i64 q.f1.f1, .int .i64 q.f2, .string q.f3, .int .i64 q.f4, .slice Ap6 q.f5.length cp6] ?hx (by kernel_rfl) (by rfl) ?h1 ?_); (case hx => first | rfl | (go_simp; done)); (case h1 => simp [Value.oneCell']); clear HS; intro w HS))
          have hbw := HS.old 1 rfl
          have y0 := cell_below Y0.out hbw
          have y1 := cell_below Y1.out hbw
          have y2 := cell_below Y2.out hbw
          have y3 := cell_below Y3.out hbw
          have y4 := cell_below Y4.out hbw
          have y5 := cell_below Y5.out hbw
          have y6 := cell_below Y6.out hbw
          clear hbw
          go_upto_region 7 with (first | ((with_reducible refine gate_dst (N := 9) rfl ?_); go_must (refine ev_box HS rfl (N := 9) rfl (cs := #[.int .i64 0, .int .i64 0, .int .i64 0, .int .i64 0, .string ⟨#[]⟩, .int .i64 0, .slice none 0 0]) (t := 31) ?hrun ?_); (case hrun => first | (go_simp; done) | (go_simp; rfl)); clear HS; intro g9 w HS) | ((with_reducible refine gate_store (t := 31) (p := 9) rfl ?_); go_must (refine ev_store HS 0 rfl rfl 31 (.tmp 9) (.tmp 25) rfl rfl rfl [.int .i64 r.f0, .int .i64 r.f1.f0, .int .i64 r.f1.f1, .int .i64 r.f2, .string r.f3, .int .i64 r.f4, .slice Aq6 r.f5.length cq6] ?hx (by kernel_rfl) (by rfl) ?h1 ?_); (case hx => first | rfl | (go_simp; done)); (case h1 => simp [Value.oneCell']); clear HS; intro w HS))
          have hob := HS.old 2 rfl
          cases b
          · go_wp2_with (first | ((with_reducible refine gate_dst (N := 27) rfl ?_); ((with_reducible refine gate_load (ty := 31) (p := 8) rfl ?_); go_must (refine ev_load HS 1 rfl rfl 31 (.tmp 8) rfl (N := 27) rfl rfl _ Tryd.underlying31 rfl (by kernel_rfl) ?_))) | ((with_reducible refine gate_dst (N := 28) rfl ?_); ((with_reducible refine gate_load (ty := 31) (p := 9) rfl ?_); go_must (refine ev_load HS 0 rfl rfl 31 (.tmp 9) rfl (N := 28) rfl rfl _ Tryd.underlying31 rfl (by kernel_rfl) ?_))) | (((with_reducible refine gate_calleeT (t := 26) (d := (some 29)) rfl rfl ?_); refine goesT_ (some 29) rfl rfl Tryd.func11 (by kernel_rfl) rfl #[.agg #[.int .i64 q.f0, .int .i64 q.f1.f0, .int .i64 q.f1.f1, .int .i64 q.f2, .string q.f3, .int .i64 q.f4, .slice Ap6 q.f5.length cp6], .agg #[.int .i64 r.f0, .int .i64 r.f1.f0, .int .i64 r.f1.f1, .int .i64 r.f2, .string r.f3, .int .i64 r.f4, .slice Aq6 r.f5.length cq6]] rfl rfl (by (try simp only [List.map_toArray, List.map_cons, List.map_nil]); first | done | rfl | (simp only [List.length_drop, List.length_take]; rfl)) ?_; (with_reducible refine (HX.out _ hob).mono ?_); rintro e w' ⟨rfl, hb⟩; refine ⟨_, rfl, ?_⟩); replace HS := HS.below hb; clear hb hob))
            go_ret
            exact ⟨by rw [HII.out.2.2]; rfl, HS.old 2 rfl⟩
          · go_wp2_with (first | ((with_reducible refine gate_dst (N := 27) rfl ?_); ((with_reducible refine gate_load (ty := 31) (p := 8) rfl ?_); go_must (refine ev_load HS 1 rfl rfl 31 (.tmp 8) rfl (N := 27) rfl rfl _ Tryd.underlying31 rfl (by kernel_rfl) ?_))) | ((with_reducible refine gate_dst (N := 28) rfl ?_); ((with_reducible refine gate_load (ty := 31) (p := 9) rfl ?_); go_must (refine ev_load HS 0 rfl rfl 31 (.tmp 9) rfl (N := 28) rfl rfl _ Tryd.underlying31 rfl (by kernel_rfl) ?_))) | (((with_reducible refine gate_calleeT (t := 26) (d := (some 29)) rfl rfl ?_); refine goesT_ (some 29) rfl rfl Tryd.func11 (by kernel_rfl) rfl #[.agg #[.int .i64 q.f0, .int .i64 q.f1.f0, .int .i64 q.f1.f1, .int .i64 q.f2, .string q.f3, .int .i64 q.f4, .slice Ap6 q.f5.length cp6], .agg #[.int .i64 r.f0, .int .i64 r.f1.f0, .int .i64 r.f1.f1, .int .i64 r.f2, .string r.f3, .int .i64 r.f4, .slice Aq6 r.f5.length cq6]] rfl rfl (by (try simp only [List.map_toArray, List.map_cons, List.map_nil]); first | done | rfl | (simp only [List.length_drop, List.length_take]; rfl)) ?_; (with_reducible refine (HX.out _ hob).mono ?_); rintro e w' ⟨rfl, hb⟩; refine ⟨_, rfl, ?_⟩); replace HS := HS.below hb; clear hb hob))
            go_roundg k1
            case measure => omega
            case rel =>
              have h1 := HII.out
              exact ⟨i + 1, by rw [hwi, ← h1.1]; rfl, ⟨by omega, by have := HI.out; omega, by rw [h1.2.2, Bool.true_and]⟩, ⟨HS.tail.tail⟩⟩
        · have hkk : i = l.length := by have := HI.out.1; omega
          subst hkk
          have hkb : decide (l.length < l.length) = false := decide_eq_false (Nat.lt_irrefl _)
          go_wp2
          go_ret
          exact ⟨by rw [HI.out.2.2, allB_end _ (Nat.le_refl _) (by rw [HLM.out]; exact Nat.le_refl _)]; rfl, HS.old 0 rfl⟩
  · have e0 : ((l.length : Int) != (m.length : Int)) = true := bne_iff_ne.2 (by omega)
    have e0' : (l.length != m.length) = true := by simpa using hlm
    rw [allB_len _ _ _ hlm]
    clear hlm hs hA hB
    go_enter Tryd.func23, Tryd.ntmps23
    go_wp2
    go_ret
    exact ⟨rfl, HS.old 0 rfl⟩
def SameSC (x : S38) : Prop := ∀ (y : S38) (W : World) (cx cy : List Value), k38.K W x cx → k38.K W y cy → Calls Tryd.prog 12 #[.agg cx.toArray, .agg cy.toArray] W fun r w' => r = .returned (.bool (sameS x y)) ∧ Below W.heap.size W w'
theorem rdS' {l : List S38} {i : Nat} (h : i < l.length) : rd_T38 l (i : Int) = l[i] := by
  unfold rd_T38; rw [Int.toNat_natCast, List.getD_eq_getElem?_getD, List.getElem?_eq_getElem h]; rfl
set_option maxRecDepth 100000 in
set_option maxHeartbeats 2000000 in
theorem eqfS_calls {l m : List S38} {A A' : Option Addr} {c c' : Nat} (hs : ∀ x ∈ l, SameSC x) (W : World) (hA : Kd.C k38 W A l.length l) (hB : Kd.C k38 W A' m.length m) :
    Calls Tryd.prog 24 #[.slice A l.length c, .slice A' m.length c', .func (.func 12) #[] #[]] W fun e w' => e = .returned (.bool (allB sameS l m)) ∧ Below W.heap.size W w' := by
  have HS := Sat.start W
  by_cases hlm : l.length = m.length
  · have e0 : ((l.length : Int) != (m.length : Int)) = false := by rw [hlm]; simp
    have e0' : (l.length != m.length) = false := by rw [hlm]; simp
    have HLM := Aside0.mk hlm
    have HSS := Aside0.mk hs
    have HLL := Aside0.mk hA.2.1
    have HA := Aside0.mk hA
    have HB := Aside0.mk hB
    clear hlm hs hA hB
    go_enter Tryd.func24, Tryd.ntmps24
    go_wp2
    go_loopg [17] (l.length + 1) (fun kq v17 w' => ∃ (i : Nat), v17 = .int .i64 (i : Int) ∧ Aside0 (i ≤ l.length ∧ l.length + 1 ≤ kq + i ∧ allB sameS l m = allB sameS (l.drop i) (m.drop i)) ∧ Aside0 (Sat W w' [old W]))
    case atStart => exact ⟨0, rfl, ⟨by omega, by omega, rfl⟩, ⟨HS⟩⟩
    case round =>
      clear HS
      obtain ⟨i, rfl, HI, HS'⟩ := hrel
      have HS := HS'.out
      clear HS'
      cases gk with
      | zero => have := HI.out; omega
      | succ k1 =>
        by_cases hk : i < l.length
        · have hkm : i < m.length := by have := HLM.out; omega
          obtain ⟨I, hI_⟩ : ∃ I : Int, (i : Int) = I := ⟨_, rfl⟩
          have p1 : 0 ≤ I := by omega
          have q1 : I < (l.length : Int) := by omega
          have q2 : I < (m.length : Int) := by omega
          have c1_ : decide (I < (l.length : Int)) = true := decide_eq_true q1
          have hbw := HS.old 0 rfl
          obtain ⟨adp, Ap4, cp4, Ap5, cp5, Ap6, cp6, rfl, x0, x1, x2, x3, x4, x5, x6, lp4, gp4, lp5, gp5, lp6, gp6⟩ := at_T38 HA.out I p1 q1
          obtain ⟨adq, Aq4, cq4, Aq5, cq5, Aq6, cq6, rfl, y0, y1, y2, y3, y4, y5, y6, lq4, gq4, lq5, gq5, lq6, gq6⟩ := at_T38 HB.out I p1 q2
          replace x0 := cell_below x0 hbw
          replace x1 := cell_below x1 hbw
          replace x2 := cell_below x2 hbw
          replace x3 := cell_below x3 hbw
          replace x4 := cell_below x4 hbw
          replace x5 := cell_below x5 hbw
          replace x6 := cell_below x6 hbw
          have hq : rd_T38 l I = l[i] := by rw [← hI_]; exact rdS' hk
          have hr : rd_T38 m I = m[i] := by rw [← hI_]; exact rdS' hkm
          obtain ⟨q, hqq⟩ : ∃ q, q = rd_T38 l I := ⟨_, rfl⟩
          obtain ⟨r, hrr⟩ : ∃ r, r = rd_T38 m I := ⟨_, rfl⟩
          rw [← hqq] at x0 x1 x2 x3 x4 x5 x6 lp4 gp4 lp5 gp5 lp6 gp6 hq
          rw [← hrr] at y0 y1 y2 y3 y4 y5 y6 lq4 gq4 lq5 gq5 lq6 gq6 hr
          have HX := Aside0.mk (fun (w : World) (hb : Below W.heap.size W w) => HSS.out q (by rw [hq]; exact List.getElem_mem hk) r w _ _ (k38_mk w q lp4 (Kd.C_below gp4 hb) lp5 (Kd.C_below gp5 hb) lp6 (Kd.C_below gp6 hb)) (k38_mk w r lq4 (Kd.C_below gq4 hb) lq5 (Kd.C_below gq5 hb) lq6 (Kd.C_below gq6 hb)))
          have hst : allB sameS l m = (sameS q r && allB sameS (l.drop (i + 1)) (m.drop (i + 1))) := by rw [HI.out.2.2, allB_at _ hk hkm, hq, hr]
          have hwi : wrap64 (I + 1) = I + 1 := w64 _ (by omega) (by have := HLL.out; omega)
          obtain ⟨b, hb0⟩ : ∃ b, b = sameS q r := ⟨_, rfl⟩
          rw [← hb0] at HX hst
          have HII := Aside0.mk (show (i : Int) = I ∧ i < l.length ∧ _ from ⟨hI_, hk, hst⟩)
          rw [hI_]
          clear hq hqq hr hrr hI_ hk hkm hbw hst hb0 gp4 gq4 gp5 gq5 gp6 gq6 
          have Y0 := Aside0.mk y0
          have Y1 := Aside0.mk y1
          have Y2 := Aside0.mk y2
          have Y3 := Aside0.mk y3
          have Y4 := Aside0.mk y4
          have Y5 := Aside0.mk y5
          have Y6 := Aside0.mk y6
          clear y0 y1 y2 y3 y4 y5 y6
          have r1 := eq_true p1
          have r2 := eq_true q1
          have r3 := eq_true q2
          go_upto_region 6 with (first | ((with_reducible refine gate_dst (N := 8) rfl ?_); go_must (refine ev_box HS rfl (N := 8) rfl (cs := #[.int .i64 0, .int .i64 0, .int .i64 0, .string ⟨#[]⟩, .slice none 0 0, .slice none 0 0, .slice none 0 0]) (t := 38) ?hrun ?_); (case hrun => first | (go_simp; done) | (go_simp; rfl)); clear HS; intro g8 w HS) | ((with_reducible refine gate_store (t := 38) (p := 8) rfl ?_); go_must (refine ev_store HS 0 rfl rfl 38 (.tmp 8) (.tmp 21) rfl rfl rfl [.int .i64 q.f0, .int .i64 q.f1.f0, .int .i64 q.f1.f1, .string q.f2, .slice Ap4 q.f3.length cp4, .slice Ap5 q.f4.length cp5, .slice Ap6 q.f5.length cp6] ?hx (by kernel_rfl) (by rfl) ?h1 ?_); (case hx => first | rfl | (go_simp; done)); (case h1 => simp [Value.oneCell']); clear HS; intro w HS))
          have hbw := HS.old 1 rfl
          have y0 := cell_below Y0.out hbw
          have y1 := cell_below Y1.out hbw
          have y2 := cell_below Y2.out hbw
          have y3 := cell_below Y3.out hbw
          have y4 := cell_below Y4.out hbw
          have y5 := cell_below Y5.out hbw
          have y6 := cell_below Y6.out hbw
          clear hbw
          go_upto_region 7 with (first | ((with_reducible refine gate_dst (N := 9) rfl ?_); go_must (refine ev_box HS rfl (N := 9) rfl (cs := #[.int .i64 0, .int .i64 0, .int .i64 0, .string ⟨#[]⟩, .slice none 0 0, .slice none 0 0, .slice none 0 0]) (t := 38) ?hrun ?_); (case hrun => first | (go_simp; done) | (go_simp; rfl)); clear HS; intro g9 w HS) | ((with_reducible refine gate_store (t := 38) (p := 9) rfl ?_); go_must (refine ev_store HS 0 rfl rfl 38 (.tmp 9) (.tmp 25) rfl rfl rfl [.int .i64 r.f0, .int .i64 r.f1.f0, .int .i64 r.f1.f1, .string r.f2, .slice Aq4 r.f3.length cq4, .slice Aq5 r.f4.length cq5, .slice Aq6 r.f5.length cq6] ?hx (by kernel_rfl) (by rfl) ?h1 ?_); (case hx => first | rfl | (go_simp; done)); (case h1 => simp [Value.oneCell']); clear HS; intro w HS))
          have hob := HS.old 2 rfl
          cases b
          · go_wp2_with (first | ((with_reducible refine gate_dst (N := 27) rfl ?_); ((with_reducible refine gate_load (ty := 38) (p := 8) rfl ?_); go_must (refine ev_load HS 1 rfl rfl 38 (.tmp 8) rfl (N := 27) rfl rfl _ Tryd.underlying38 rfl (by kernel_rfl) ?_))) | ((with_reducible refine gate_dst (N := 28) rfl ?_); ((with_reducible refine gate_load (ty := 38) (p := 9) rfl ?_); go_must (refine ev_load HS 0 rfl rfl 38 (.tmp 9) rfl (N := 28) rfl rfl _ Tryd.underlying38 rfl (by kernel_rfl) ?_))) | (((with_reducible refine gate_calleeT (t := 26) (d := (some 29)) rfl rfl ?_); refine goesT_ (some 29) rfl rfl Tryd.func12 (by kernel_rfl) rfl #[.agg #[.int .i64 q.f0, .int .i64 q.f1.f0, .int .i64 q.f1.f1, .string q.f2, .slice Ap4 q.f3.length cp4, .slice Ap5 q.f4.length cp5, .slice Ap6 q.f5.length cp6], .agg #[.int .i64 r.f0, .int .i64 r.f1.f0, .int .i64 r.f1.f1, .string r.f2, .slice Aq4 r.f3.length cq4, .slice Aq5 r.f4.length cq5, .slice Aq6 r.f5.length cq6]] rfl rfl (by (try simp only [List.map_toArray, List.map_cons, List.map_nil]); first | done | rfl | (simp only [List.length_drop, List.length_take]; rfl)) ?_; (with_reducible refine (HX.out _ hob).mono ?_); rintro e w' ⟨rfl, hb⟩; refine ⟨_, rfl, ?_⟩); replace HS := HS.below hb; clear hb hob))
            go_ret
            exact ⟨by rw [HII.out.2.2]; rfl, HS.old 2 rfl⟩
          · go_wp2_with (first | ((with_reducible refine gate_dst (N := 27) rfl ?_); ((with_reducible refine gate_load (ty := 38) (p := 8) rfl ?_); go_must (refine ev_load HS 1 rfl rfl 38 (.tmp 8) rfl (N := 27) rfl rfl _ Tryd.underlying38 rfl (by kernel_rfl) ?_))) | ((with_reducible refine gate_dst (N := 28) rfl ?_); ((with_reducible refine gate_load (ty := 38) (p := 9) rfl ?_); go_must (refine ev_load HS 0 rfl rfl 38 (.tmp 9) rfl (N := 28) rfl rfl _ Tryd.underlying38 rfl (by kernel_rfl) ?_))) | (((with_reducible refine gate_calleeT (t := 26) (d := (some 29)) rfl rfl ?_); refine goesT_ (some 29) rfl rfl Tryd.func12 (by kernel_rfl) rfl #[.agg #[.int .i64 q.f0, .int .i64 q.f1.f0, .int .i64 q.f1.f1, .string q.f2, .slice Ap4 q.f3.length cp4, .slice Ap5 q.f4.length cp5, .slice Ap6 q.f5.length cp6], .agg #[.int .i64 r.f0, .int .i64 r.f1.f0, .int .i64 r.f1.f1, .string r.f2, .slice Aq4 r.f3.length cq4, .slice Aq5 r.f4.length cq5, .slice Aq6 r.f5.length cq6]] rfl rfl (by (try simp only [List.map_toArray, List.map_cons, List.map_nil]); first | done | rfl | (simp only [List.length_drop, List.length_take]; rfl)) ?_; (with_reducible refine (HX.out _ hob).mono ?_); rintro e w' ⟨rfl, hb⟩; refine ⟨_, rfl, ?_⟩); replace HS := HS.below hb; clear hb hob))
            go_roundg k1
            case measure => omega
            case rel =>
              have h1 := HII.out
              exact ⟨i + 1, by rw [hwi, ← h1.1]; rfl, ⟨by omega, by have := HI.out; omega, by rw [h1.2.2, Bool.true_and]⟩, ⟨HS.tail.tail⟩⟩
        · have hkk : i = l.length := by have := HI.out.1; omega
          subst hkk
          have hkb : decide (l.length < l.length) = false := decide_eq_false (Nat.lt_irrefl _)
          go_wp2
          go_ret
          exact ⟨by rw [HI.out.2.2, allB_end _ (Nat.le_refl _) (by rw [HLM.out]; exact Nat.le_refl _)]; rfl, HS.old 0 rfl⟩
  · have e0 : ((l.length : Int) != (m.length : Int)) = true := bne_iff_ne.2 (by omega)
    have e0' : (l.length != m.length) = true := by simpa using hlm
    rw [allB_len _ _ _ hlm]
    clear hlm hs hA hB
    go_enter Tryd.func24, Tryd.ntmps24
    go_wp2
    go_ret
    exact ⟨rfl, HS.old 0 rfl⟩
def SameGC (x : S54) : Prop := ∀ (y : S54) (W : World) (cx cy : List Value), k54.K W x cx → k54.K W y cy → Calls Tryd.prog 26 #[.agg cx.toArray, .agg cy.toArray] W fun r w' => r = .returned (.bool (sameG x y)) ∧ Below W.heap.size W w'
theorem rdG' {l : List S54} {i : Nat} (h : i < l.length) : rd_T54 l (i : Int) = l[i] := by
  unfold rd_T54; rw [Int.toNat_natCast, List.getD_eq_getElem?_getD, List.getElem?_eq_getElem h]; rfl
set_option maxRecDepth 100000 in
set_option maxHeartbeats 2000000 in
theorem eqfG_calls {l m : List S54} {A A' : Option Addr} {c c' : Nat} (hs : ∀ x ∈ l, SameGC x) (W : World) (hA : Kd.C k54 W A l.length l) (hB : Kd.C k54 W A' m.length m) :
    Calls Tryd.prog 25 #[.slice A l.length c, .slice A' m.length c', .func (.func 26) #[] #[]] W fun e w' => e = .returned (.bool (allB sameG l m)) ∧ Below W.heap.size W w' := by
  have HS := Sat.start W
  by_cases hlm : l.length = m.length
  · have e0 : ((l.length : Int) != (m.length : Int)) = false := by rw [hlm]; simp
    have e0' : (l.length != m.length) = false := by rw [hlm]; simp
    have HLM := Aside0.mk hlm
    have HSS := Aside0.mk hs
    have HLL := Aside0.mk hA.2.1
    have HA := Aside0.mk hA
    have HB := Aside0.mk hB
    clear hlm hs hA hB
    go_enter Tryd.func25, Tryd.ntmps25
    go_wp2
    go_loopg [17] (l.length + 1) (fun kq v17 w' => ∃ (i : Nat), v17 = .int .i64 (i : Int) ∧ Aside0 (i ≤ l.length ∧ l.length + 1 ≤ kq + i ∧ allB sameG l m = allB sameG (l.drop i) (m.drop i)) ∧ Aside0 (Sat W w' [old W]))
    case atStart => exact ⟨0, rfl, ⟨by omega, by omega, rfl⟩, ⟨HS⟩⟩
    case round =>
      clear HS
      obtain ⟨i, rfl, HI, HS'⟩ := hrel
      have HS := HS'.out
      clear HS'
      cases gk with
      | zero => have := HI.out; omega
      | succ k1 =>
        by_cases hk : i < l.length
        · have hkm : i < m.length := by have := HLM.out; omega
          obtain ⟨I, hI_⟩ : ∃ I : Int, (i : Int) = I := ⟨_, rfl⟩
          have p1 : 0 ≤ I := by omega
          have q1 : I < (l.length : Int) := by omega
          have q2 : I < (m.length : Int) := by omega
          have c1_ : decide (I < (l.length : Int)) = true := decide_eq_true q1
          have hbw := HS.old 0 rfl
          obtain ⟨adp, rfl, x0, x1, x2, x3, x4⟩ := at_T54 HA.out I p1 q1
          obtain ⟨adq, rfl, y0, y1, y2, y3, y4⟩ := at_T54 HB.out I p1 q2
          replace x0 := cell_below x0 hbw
          replace x1 := cell_below x1 hbw
          replace x2 := cell_below x2 hbw
          replace x3 := cell_below x3 hbw
          replace x4 := cell_below x4 hbw
          have hq : rd_T54 l I = l[i] := by rw [← hI_]; exact rdG' hk
          have hr : rd_T54 m I = m[i] := by rw [← hI_]; exact rdG' hkm
          obtain ⟨q, hqq⟩ : ∃ q, q = rd_T54 l I := ⟨_, rfl⟩
          obtain ⟨r, hrr⟩ : ∃ r, r = rd_T54 m I := ⟨_, rfl⟩
          rw [← hqq] at x0 x1 x2 x3 x4 hq
          rw [← hrr] at y0 y1 y2 y3 y4 hr
          have HX := Aside0.mk (fun (w : World) (hb : Below W.heap.size W w) => HSS.out q (by rw [hq]; exact List.getElem_mem hk) r w _ _ (k54_mk w q) (k54_mk w r))
          have hst : allB sameG l m = (sameG q r && allB sameG (l.drop (i + 1)) (m.drop (i + 1))) := by rw [HI.out.2.2, allB_at _ hk hkm, hq, hr]
          have hwi : wrap64 (I + 1) = I + 1 := w64 _ (by omega) (by have := HLL.out; omega)
          obtain ⟨b, hb0⟩ : ∃ b, b = sameG q r := ⟨_, rfl⟩
          rw [← hb0] at HX hst
          have HII := Aside0.mk (show (i : Int) = I ∧ i < l.length ∧ _ from ⟨hI_, hk, hst⟩)
          rw [hI_]
          clear hq hqq hr hrr hI_ hk hkm hbw hst hb0 
          have Y0 := Aside0.mk y0
          have Y1 := Aside0.mk y1
          have Y2 := Aside0.mk y2
          have Y3 := Aside0.mk y3
          have Y4 := Aside0.mk y4
          clear y0 y1 y2 y3 y4
          have r1 := eq_true p1
          have r2 := eq_true q1
          have r3 := eq_true q2
          go_upto_region 6 with (first | ((with_reducible refine gate_dst (N := 8) rfl ?_); go_must (refine ev_box HS rfl (N := 8) rfl (cs := #[.string ⟨#[]⟩, .int .i64 0, .int .i64 0, .int .i64 0, .int .i64 0]) (t := 54) ?hrun ?_); (case hrun => first | (go_simp; done) | (go_simp; rfl)); clear HS; intro g8 w HS) | ((with_reducible refine gate_store (t := 54) (p := 8) rfl ?_); go_must (refine ev_store HS 0 rfl rfl 54 (.tmp 8) (.tmp 21) rfl rfl rfl [.string q.f0, .int .i64 q.f1, .int .i64 q.f2, .int .i64 q.f3.f0, .int .i64 q.f3.f1] ?hx (by kernel_rfl) (by rfl) ?h1 ?_); (case hx => first | rfl | (go_simp; done)); (case h1 => simp [Value.oneCell']); clear HS; intro w HS))
          have hbw := HS.old 1 rfl
          have y0 := cell_below Y0.out hbw
          have y1 := cell_below Y1.out hbw
          have y2 := cell_below Y2.out hbw
          have y3 := cell_below Y3.out hbw
          have y4 := cell_below Y4.out hbw
          clear hbw
          go_upto_region 7 with (first | ((with_reducible refine gate_dst (N := 9) rfl ?_); go_must (refine ev_box HS rfl (N := 9) rfl (cs := #[.string ⟨#[]⟩, .int .i64 0, .int .i64 0, .int .i64 0, .int .i64 0]) (t := 54) ?hrun ?_); (case hrun => first | (go_simp; done) | (go_simp; rfl)); clear HS; intro g9 w HS) | ((with_reducible refine gate_store (t := 54) (p := 9) rfl ?_); go_must (refine ev_store HS 0 rfl rfl 54 (.tmp 9) (.tmp 25) rfl rfl rfl [.string r.f0, .int .i64 r.f1, .int .i64 r.f2, .int .i64 r.f3.f0, .int .i64 r.f3.f1] ?hx (by kernel_rfl) (by rfl) ?h1 ?_); (case hx => first | rfl | (go_simp; done)); (case h1 => simp [Value.oneCell']); clear HS; intro w HS))
          have hob := HS.old 2 rfl
          cases b
          · go_wp2_with (first | ((with_reducible refine gate_dst (N := 27) rfl ?_); ((with_reducible refine gate_load (ty := 54) (p := 8) rfl ?_); go_must (refine ev_load HS 1 rfl rfl 54 (.tmp 8) rfl (N := 27) rfl rfl _ Tryd.underlying54 rfl (by kernel_rfl) ?_))) | ((with_reducible refine gate_dst (N := 28) rfl ?_); ((with_reducible refine gate_load (ty := 54) (p := 9) rfl ?_); go_must (refine ev_load HS 0 rfl rfl 54 (.tmp 9) rfl (N := 28) rfl rfl _ Tryd.underlying54 rfl (by kernel_rfl) ?_))) | (((with_reducible refine gate_calleeT (t := 26) (d := (some 29)) rfl rfl ?_); refine goesT_ (some 29) rfl rfl Tryd.func26 (by kernel_rfl) rfl #[.agg #[.string q.f0, .int .i64 q.f1, .int .i64 q.f2, .int .i64 q.f3.f0, .int .i64 q.f3.f1], .agg #[.string r.f0, .int .i64 r.f1, .int .i64 r.f2, .int .i64 r.f3.f0, .int .i64 r.f3.f1]] rfl rfl (by (try simp only [List.map_toArray, List.map_cons, List.map_nil]); first | done | rfl | (simp only [List.length_drop, List.length_take]; rfl)) ?_; (with_reducible refine (HX.out _ hob).mono ?_); rintro e w' ⟨rfl, hb⟩; refine ⟨_, rfl, ?_⟩); replace HS := HS.below hb; clear hb hob))
            go_ret
            exact ⟨by rw [HII.out.2.2]; rfl, HS.old 2 rfl⟩
          · go_wp2_with (first | ((with_reducible refine gate_dst (N := 27) rfl ?_); ((with_reducible refine gate_load (ty := 54) (p := 8) rfl ?_); go_must (refine ev_load HS 1 rfl rfl 54 (.tmp 8) rfl (N := 27) rfl rfl _ Tryd.underlying54 rfl (by kernel_rfl) ?_))) | ((with_reducible refine gate_dst (N := 28) rfl ?_); ((with_reducible refine gate_load (ty := 54) (p := 9) rfl ?_); go_must (refine ev_load HS 0 rfl rfl 54 (.tmp 9) rfl (N := 28) rfl rfl _ Tryd.underlying54 rfl (by kernel_rfl) ?_))) | (((with_reducible refine gate_calleeT (t := 26) (d := (some 29)) rfl rfl ?_); refine goesT_ (some 29) rfl rfl Tryd.func26 (by kernel_rfl) rfl #[.agg #[.string q.f0, .int .i64 q.f1, .int .i64 q.f2, .int .i64 q.f3.f0, .int .i64 q.f3.f1], .agg #[.string r.f0, .int .i64 r.f1, .int .i64 r.f2, .int .i64 r.f3.f0, .int .i64 r.f3.f1]] rfl rfl (by (try simp only [List.map_toArray, List.map_cons, List.map_nil]); first | done | rfl | (simp only [List.length_drop, List.length_take]; rfl)) ?_; (with_reducible refine (HX.out _ hob).mono ?_); rintro e w' ⟨rfl, hb⟩; refine ⟨_, rfl, ?_⟩); replace HS := HS.below hb; clear hb hob))
            go_roundg k1
            case measure => omega
            case rel =>
              have h1 := HII.out
              exact ⟨i + 1, by rw [hwi, ← h1.1]; rfl, ⟨by omega, by have := HI.out; omega, by rw [h1.2.2, Bool.true_and]⟩, ⟨HS.tail.tail⟩⟩
        · have hkk : i = l.length := by have := HI.out.1; omega
          subst hkk
          have hkb : decide (l.length < l.length) = false := decide_eq_false (Nat.lt_irrefl _)
          go_wp2
          go_ret
          exact ⟨by rw [HI.out.2.2, allB_end _ (Nat.le_refl _) (by rw [HLM.out]; exact Nat.le_refl _)]; rfl, HS.old 0 rfl⟩
  · have e0 : ((l.length : Int) != (m.length : Int)) = true := bne_iff_ne.2 (by omega)
    have e0' : (l.length != m.length) = true := by simpa using hlm
    rw [allB_len _ _ _ hlm]
    clear hlm hs hA hB
    go_enter Tryd.func25, Tryd.ntmps25
    go_wp2
    go_ret
    exact ⟨rfl, HS.old 0 rfl⟩
def SameFC (x : S41) : Prop := ∀ (y : S41) (W : World) (cx cy : List Value), k41.K W x cx → k41.K W y cy → Calls Tryd.prog 28 #[.agg cx.toArray, .agg cy.toArray] W fun r w' => r = .returned (.bool (sameF x y)) ∧ Below W.heap.size W w'
theorem rdF' {l : List S41} {i : Nat} (h : i < l.length) : rd_T41 l (i : Int) = l[i] := by
  unfold rd_T41; rw [Int.toNat_natCast, List.getD_eq_getElem?_getD, List.getElem?_eq_getElem h]; rfl
set_option maxRecDepth 100000 in
set_option maxHeartbeats 2000000 in
theorem eqfF_calls {l m : List S41} {A A' : Option Addr} {c c' : Nat} (hs : ∀ x ∈ l, SameFC x) (W : World) (hA : Kd.C k41 W A l.length l) (hB : Kd.C k41 W A' m.length m) :
    Calls Tryd.prog 27 #[.slice A l.length c, .slice A' m.length c', .func (.func 28) #[] #[]] W fun e w' => e = .returned (.bool (allB sameF l m)) ∧ Below W.heap.size W w' := by
  have HS := Sat.start W
  by_cases hlm : l.length = m.length
  · have e0 : ((l.length : Int) != (m.length : Int)) = false := by rw [hlm]; simp
    have e0' : (l.length != m.length) = false := by rw [hlm]; simp
    have HLM := Aside0.mk hlm
    have HSS := Aside0.mk hs
    have HLL := Aside0.mk hA.2.1
    have HA := Aside0.mk hA
    have HB := Aside0.mk hB
    clear hlm hs hA hB
    go_enter Tryd.func27, Tryd.ntmps27
    go_wp2
    go_loopg [17] (l.length + 1) (fun kq v17 w' => ∃ (i : Nat), v17 = .int .i64 (i : Int) ∧ Aside0 (i ≤ l.length ∧ l.length + 1 ≤ kq + i ∧ allB sameF l m = allB sameF (l.drop i) (m.drop i)) ∧ Aside0 (Sat W w' [old W]))
    case atStart => exact ⟨0, rfl, ⟨by omega, by omega, rfl⟩, ⟨HS⟩⟩
    case round =>
      clear HS
      obtain ⟨i, rfl, HI, HS'⟩ := hrel
      have HS := HS'.out
      clear HS'
      cases gk with
      | zero => have := HI.out; omega
      | succ k1 =>
        by_cases hk : i < l.length
        · have hkm : i < m.length := by have := HLM.out; omega
          obtain ⟨I, hI_⟩ : ∃ I : Int, (i : Int) = I := ⟨_, rfl⟩
          have p1 : 0 ≤ I := by omega
          have q1 : I < (l.length : Int) := by omega
          have q2 : I < (m.length : Int) := by omega
          have c1_ : decide (I < (l.length : Int)) = true := decide_eq_true q1
          have hbw := HS.old 0 rfl
          obtain ⟨adp, Ap1, cp1, Ap2, cp2, rfl, x0, x1, x2, x3, x4, lp1, gp1, lp2, gp2⟩ := at_T41 HA.out I p1 q1
          obtain ⟨adq, Aq1, cq1, Aq2, cq2, rfl, y0, y1, y2, y3, y4, lq1, gq1, lq2, gq2⟩ := at_T41 HB.out I p1 q2
          replace x0 := cell_below x0 hbw
          replace x1 := cell_below x1 hbw
          replace x2 := cell_below x2 hbw
          replace x3 := cell_below x3 hbw
          replace x4 := cell_below x4 hbw
          have hq : rd_T41 l I = l[i] := by rw [← hI_]; exact rdF' hk
          have hr : rd_T41 m I = m[i] := by rw [← hI_]; exact rdF' hkm
          obtain ⟨q, hqq⟩ : ∃ q, q = rd_T41 l I := ⟨_, rfl⟩
          obtain ⟨r, hrr⟩ : ∃ r, r = rd_T41 m I := ⟨_, rfl⟩
          rw [← hqq] at x0 x1 x2 x3 x4 lp1 gp1 lp2 gp2 hq
          rw [← hrr] at y0 y1 y2 y3 y4 lq1 gq1 lq2 gq2 hr
          have HX := Aside0.mk (fun (w : World) (hb : Below W.heap.size W w) => HSS.out q (by rw [hq]; exact List.getElem_mem hk) r w _ _ (k41_mk w q lp1 (Kd.C_below gp1 hb) lp2 (Kd.C_below gp2 hb)) (k41_mk w r lq1 (Kd.C_below gq1 hb) lq2 (Kd.C_below gq2 hb)))
          have hst : allB sameF l m = (sameF q r && allB sameF (l.drop (i + 1)) (m.drop (i + 1))) := by rw [HI.out.2.2, allB_at _ hk hkm, hq, hr]
          have hwi : wrap64 (I + 1) = I + 1 := w64 _ (by omega) (by have := HLL.out; omega)
          obtain ⟨b, hb0⟩ : ∃ b, b = sameF q r := ⟨_, rfl⟩
          rw [← hb0] at HX hst
          have HII := Aside0.mk (show (i : Int) = I ∧ i < l.length ∧ _ from ⟨hI_, hk, hst⟩)
          rw [hI_]
          clear hq hqq hr hrr hI_ hk hkm hbw hst hb0 gp1 gq1 gp2 gq2 
          have Y0 := Aside0.mk y0
          have Y1 := Aside0.mk y1
          have Y2 := Aside0.mk y2
          have Y3 := Aside0.mk y3
          have Y4 := Aside0.mk y4
          clear y0 y1 y2 y3 y4
          have r1 := eq_true p1
          have r2 := eq_true q1
          have r3 := eq_true q2
          go_upto_region 6 with (first | ((with_reducible refine gate_dst (N := 8) rfl ?_); go_must (refine ev_box HS rfl (N := 8) rfl (cs := #[.string ⟨#[]⟩, .slice none 0 0, .slice none 0 0, .int .i64 0, .int .i64 0]) (t := 41) ?hrun ?_); (case hrun => first | (go_simp; done) | (go_simp; rfl)); clear HS; intro g8 w HS) | ((with_reducible refine gate_store (t := 41) (p := 8) rfl ?_); go_must (refine ev_store HS 0 rfl rfl 41 (.tmp 8) (.tmp 21) rfl rfl rfl [.string q.f0, .slice Ap1 q.f1.length cp1, .slice Ap2 q.f2.length cp2, .int .i64 q.f3.f0, .int .i64 q.f3.f1] ?hx (by kernel_rfl) (by rfl) ?h1 ?_); (case hx => first | rfl | (go_simp; done)); (case h1 => simp [Value.oneCell']); clear HS; intro w HS))
          have hbw := HS.old 1 rfl
          have y0 := cell_below Y0.out hbw
          have y1 := cell_below Y1.out hbw
          have y2 := cell_below Y2.out hbw
          have y3 := cell_below Y3.out hbw
          have y4 := cell_below Y4.out hbw
          clear hbw
          go_upto_region 7 with (first | ((with_reducible refine gate_dst (N := 9) rfl ?_); go_must (refine ev_box HS rfl (N := 9) rfl (cs := #[.string ⟨#[]⟩, .slice none 0 0, .slice none 0 0, .int .i64 0, .int .i64 0]) (t := 41) ?hrun ?_); (case hrun => first | (go_simp; done) | (go_simp; rfl)); clear HS; intro g9 w HS) | ((with_reducible refine gate_store (t := 41) (p := 9) rfl ?_); go_must (refine ev_store HS 0 rfl rfl 41 (.tmp 9) (.tmp 25) rfl rfl rfl [.string r.f0, .slice Aq1 r.f1.length cq1, .slice Aq2 r.f2.length cq2, .int .i64 r.f3.f0, .int .i64 r.f3.f1] ?hx (by kernel_rfl) (by rfl) ?h1 ?_); (case hx => first | rfl | (go_simp; done)); (case h1 => simp [Value.oneCell']); clear HS; intro w HS))
          have hob := HS.old 2 rfl
          cases b
          · go_wp2_with (first | ((with_reducible refine gate_dst (N := 27) rfl ?_); ((with_reducible refine gate_load (ty := 41) (p := 8) rfl ?_); go_must (refine ev_load HS 1 rfl rfl 41 (.tmp 8) rfl (N := 27) rfl rfl _ Tryd.underlying41 rfl (by kernel_rfl) ?_))) | ((with_reducible refine gate_dst (N := 28) rfl ?_); ((with_reducible refine gate_load (ty := 41) (p := 9) rfl ?_); go_must (refine ev_load HS 0 rfl rfl 41 (.tmp 9) rfl (N := 28) rfl rfl _ Tryd.underlying41 rfl (by kernel_rfl) ?_))) | (((with_reducible refine gate_calleeT (t := 26) (d := (some 29)) rfl rfl ?_); refine goesT_ (some 29) rfl rfl Tryd.func28 (by kernel_rfl) rfl #[.agg #[.string q.f0, .slice Ap1 q.f1.length cp1, .slice Ap2 q.f2.length cp2, .int .i64 q.f3.f0, .int .i64 q.f3.f1], .agg #[.string r.f0, .slice Aq1 r.f1.length cq1, .slice Aq2 r.f2.length cq2, .int .i64 r.f3.f0, .int .i64 r.f3.f1]] rfl rfl (by (try simp only [List.map_toArray, List.map_cons, List.map_nil]); first | done | rfl | (simp only [List.length_drop, List.length_take]; rfl)) ?_; (with_reducible refine (HX.out _ hob).mono ?_); rintro e w' ⟨rfl, hb⟩; refine ⟨_, rfl, ?_⟩); replace HS := HS.below hb; clear hb hob))
            go_ret
            exact ⟨by rw [HII.out.2.2]; rfl, HS.old 2 rfl⟩
          · go_wp2_with (first | ((with_reducible refine gate_dst (N := 27) rfl ?_); ((with_reducible refine gate_load (ty := 41) (p := 8) rfl ?_); go_must (refine ev_load HS 1 rfl rfl 41 (.tmp 8) rfl (N := 27) rfl rfl _ Tryd.underlying41 rfl (by kernel_rfl) ?_))) | ((with_reducible refine gate_dst (N := 28) rfl ?_); ((with_reducible refine gate_load (ty := 41) (p := 9) rfl ?_); go_must (refine ev_load HS 0 rfl rfl 41 (.tmp 9) rfl (N := 28) rfl rfl _ Tryd.underlying41 rfl (by kernel_rfl) ?_))) | (((with_reducible refine gate_calleeT (t := 26) (d := (some 29)) rfl rfl ?_); refine goesT_ (some 29) rfl rfl Tryd.func28 (by kernel_rfl) rfl #[.agg #[.string q.f0, .slice Ap1 q.f1.length cp1, .slice Ap2 q.f2.length cp2, .int .i64 q.f3.f0, .int .i64 q.f3.f1], .agg #[.string r.f0, .slice Aq1 r.f1.length cq1, .slice Aq2 r.f2.length cq2, .int .i64 r.f3.f0, .int .i64 r.f3.f1]] rfl rfl (by (try simp only [List.map_toArray, List.map_cons, List.map_nil]); first | done | rfl | (simp only [List.length_drop, List.length_take]; rfl)) ?_; (with_reducible refine (HX.out _ hob).mono ?_); rintro e w' ⟨rfl, hb⟩; refine ⟨_, rfl, ?_⟩); replace HS := HS.below hb; clear hb hob))
            go_roundg k1
            case measure => omega
            case rel =>
              have h1 := HII.out
              exact ⟨i + 1, by rw [hwi, ← h1.1]; rfl, ⟨by omega, by have := HI.out; omega, by rw [h1.2.2, Bool.true_and]⟩, ⟨HS.tail.tail⟩⟩
        · have hkk : i = l.length := by have := HI.out.1; omega
          subst hkk
          have hkb : decide (l.length < l.length) = false := decide_eq_false (Nat.lt_irrefl _)
          go_wp2
          go_ret
          exact ⟨by rw [HI.out.2.2, allB_end _ (Nat.le_refl _) (by rw [HLM.out]; exact Nat.le_refl _)]; rfl, HS.old 0 rfl⟩
  · have e0 : ((l.length : Int) != (m.length : Int)) = true := bne_iff_ne.2 (by omega)
    have e0' : (l.length != m.length) = true := by simpa using hlm
    rw [allB_len _ _ _ hlm]
    clear hlm hs hA hB
    go_enter Tryd.func27, Tryd.ntmps27
    go_wp2
    go_ret
    exact ⟨rfl, HS.old 0 rfl⟩
set_option maxRecDepth 100000 in
set_option maxHeartbeats 2000000 in
theorem equal_strs {l m : List ByteArray} {A A' : Option Addr} {c c' : Nat} (W : World) (hA : Kd.C Kd.string W A l.length l) (hB : Kd.C Kd.string W A' m.length m) :
    Calls Tryd.prog 29 #[.slice A l.length c, .slice A' m.length c'] W fun e w' => e = .returned (.bool (allB strB l m)) ∧ Below W.heap.size W w' := by
  have HS := Sat.start W
  by_cases hlm : l.length = m.length
  · have e0 : ((l.length : Int) != (m.length : Int)) = false := by rw [hlm]; simp
    have e0' : (l.length != m.length) = false := by rw [hlm]; simp
    have HLM := Aside0.mk hlm
    have HLL := Aside0.mk hA.2.1
    have HA := Aside0.mk hA
    have HB := Aside0.mk hB
    clear hlm hA hB
    go_enter Tryd.func29, Tryd.ntmps29
    go_wp2
    go_loopg [13] (l.length + 1) (fun kq v13 w' => ∃ (i : Nat), v13 = .int .i64 (i : Int) ∧ Aside0 (i ≤ l.length ∧ l.length + 1 ≤ kq + i ∧ allB strB l m = allB strB (l.drop i) (m.drop i)) ∧ Aside0 (Sat W w' [old W]))
    case atStart => exact ⟨0, rfl, ⟨by omega, by omega, rfl⟩, ⟨HS⟩⟩
    case round =>
      clear HS
      obtain ⟨i, rfl, HI, HS'⟩ := hrel
      have HS := HS'.out
      clear HS'
      cases gk with
      | zero => have := HI.out; omega
      | succ k1 =>
        by_cases hk : i < l.length
        · have hkm : i < m.length := by have := HLM.out; omega
          obtain ⟨I, hI_⟩ : ∃ I : Int, (i : Int) = I := ⟨_, rfl⟩
          have p1 : 0 ≤ I := by omega
          have q1 : I < (l.length : Int) := by omega
          have q2 : I < (m.length : Int) := by omega
          have c1_ : decide (I < (l.length : Int)) = true := decide_eq_true q1
          obtain ⟨a1, rfl, x0⟩ := at_str (Kd.C_below HA.out (HS.old 0 rfl)) I p1 q1
          obtain ⟨a2, rfl, y0⟩ := at_str (Kd.C_below HB.out (HS.old 0 rfl)) I p1 q2
          have hq : l.getD I.toNat default = l[i] := by rw [← hI_, Int.toNat_natCast, List.getD_eq_getElem?_getD, List.getElem?_eq_getElem hk]; rfl
          have hr : m.getD I.toNat default = m[i] := by rw [← hI_, Int.toNat_natCast, List.getD_eq_getElem?_getD, List.getElem?_eq_getElem hkm]; rfl
          rw [hq] at x0
          rw [hr] at y0
          have hst : allB strB l m = (strB l[i] m[i] && allB strB (l.drop (i + 1)) (m.drop (i + 1))) := by rw [HI.out.2.2, allB_at _ hk hkm]
          have hwi : wrap64 (I + 1) = I + 1 := w64 _ (by omega) (by have := HLL.out; omega)
          obtain ⟨q, hqq⟩ : ∃ q, q = l[i] := ⟨_, rfl⟩
          obtain ⟨r, hrr⟩ : ∃ r, r = m[i] := ⟨_, rfl⟩
          rw [← hqq] at x0 hst
          rw [← hrr] at y0 hst
          have hst2 : allB strB l m = ((q.toList == r.toList) && allB strB (l.drop (i + 1)) (m.drop (i + 1))) := hst
          obtain ⟨b, hb0⟩ : ∃ b, (q.toList == r.toList) = b := ⟨_, rfl⟩
          have hb1 : (q.toList != r.toList) = !b := by rw [← hb0]; rfl
          rw [hb0] at hst2
          have HII := Aside0.mk (show (i : Int) = I ∧ i < l.length ∧ _ from ⟨hI_, hk, hst2⟩)
          rw [hI_]
          clear hq hqq hr hrr hI_ hk hkm hst hst2
          have r1 := eq_true p1
          have r2 := eq_true q1
          have r3 := eq_true q2
          cases b
          · go_wp2
            repeat (go_quiet (fail); try go_wp2)
            go_ret
            exact ⟨by rw [HII.out.2.2]; rfl, (HS.drewN nq).old 0 rfl⟩
          · go_wp2
            repeat (go_quiet (fail); try go_wp2)
            go_roundg k1
            case measure => omega
            case rel =>
              have h1 := HII.out
              exact ⟨i + 1, by rw [hwi, ← h1.1]; rfl, ⟨by omega, by have := HI.out; omega, by rw [h1.2.2, Bool.true_and]⟩, ⟨HS.drewN nq⟩⟩
        · have hkk : i = l.length := by have := HI.out.1; omega
          subst hkk
          have hkb : decide (l.length < l.length) = false := decide_eq_false (Nat.lt_irrefl _)
          go_wp2
          go_ret
          exact ⟨by rw [HI.out.2.2, allB_end _ (Nat.le_refl _) (by rw [HLM.out]; exact Nat.le_refl _)]; rfl, HS.old 0 rfl⟩
  · have e0 : ((l.length : Int) != (m.length : Int)) = true := bne_iff_ne.2 (by omega)
    have e0' : (l.length != m.length) = true := by simpa using hlm
    rw [allB_len _ _ _ hlm]
    clear hlm hA hB
    go_enter Tryd.func29, Tryd.ntmps29
    go_wp2
    go_ret
    exact ⟨rfl, HS.old 0 rfl⟩
theorem sameE_full (x y : S31) : sameE x y = ((x.f0 == y.f0) && ((x.f2 == y.f2) && ((x.f3.toList == y.f3.toList) && ((x.f4 == y.f4) && (allB sameE x.f5 y.f5))))) := sameE_eq x y
set_option maxRecDepth 100000 in
set_option maxHeartbeats 2000000 in
theorem sameE_0 (x y : S31) {Ap6 : Option Addr} {cp6 : Nat} {Aq6 : Option Addr} {cq6 : Nat} (W : World) (gp6 : Kd.C k31 W Ap6 x.f5.length x.f5) (gq6 : Kd.C k31 W Aq6 y.f5.length y.f5) (ih6 : ∀ e ∈ x.f5, SameEC e) (h0 : (x.f0 == y.f0) = false) :
    Calls Tryd.prog 11 #[.agg #[.int .i64 x.f0, .int .i64 x.f1.f0, .int .i64 x.f1.f1, .int .i64 x.f2, .string x.f3, .int .i64 x.f4, .slice Ap6 x.f5.length cp6], .agg #[.int .i64 y.f0, .int .i64 y.f1.f0, .int .i64 y.f1.f1, .int .i64 y.f2, .string y.f3, .int .i64 y.f4, .slice Aq6 y.f5.length cq6]] W fun r w' => r = .returned (.bool (sameE x y)) ∧ Below W.heap.size W w' := by
  have HS := Sat.start W
  rw [sameE_full]
  rw [h0, Bool.false_and]
  clear gp6 gq6 ih6
  go_enter Tryd.func11, Tryd.ntmps11
  go_upto_region 1 with (first | ((with_reducible refine gate_dst (N := 2) rfl ?_); go_must (refine ev_box HS rfl (N := 2) rfl (cs := #[.int .i64 x.f0, .int .i64 x.f1.f0, .int .i64 x.f1.f1, .int .i64 x.f2, .string x.f3, .int .i64 x.f4, .slice Ap6 x.f5.length cp6]) (t := 31) ?hrun ?_); (case hrun => first | (go_simp; done) | (go_simp; rfl)); clear HS; intro g2 w HS) | ((with_reducible refine gate_dst (N := 3) rfl ?_); go_must (refine ev_box HS rfl (N := 3) rfl (cs := #[.int .i64 y.f0, .int .i64 y.f1.f0, .int .i64 y.f1.f1, .int .i64 y.f2, .string y.f3, .int .i64 y.f4, .slice Aq6 y.f5.length cq6]) (t := 31) ?hrun ?_); (case hrun => first | (go_simp; done) | (go_simp; rfl)); clear HS; intro g3 w HS))
  have cb2 := HS.cell 1 rfl
  have cb3 := HS.cell 0 rfl
  go_wp2
  go_ret
  exact ⟨rfl, HS.old 2 rfl⟩
set_option maxRecDepth 100000 in
set_option maxHeartbeats 2000000 in
theorem sameE_1 (x y : S31) {Ap6 : Option Addr} {cp6 : Nat} {Aq6 : Option Addr} {cq6 : Nat} (W : World) (gp6 : Kd.C k31 W Ap6 x.f5.length x.f5) (gq6 : Kd.C k31 W Aq6 y.f5.length y.f5) (ih6 : ∀ e ∈ x.f5, SameEC e) (h0 : (x.f0 == y.f0) = true) (h1 : (x.f2 == y.f2) = false) :
    Calls Tryd.prog 11 #[.agg #[.int .i64 x.f0, .int .i64 x.f1.f0, .int .i64 x.f1.f1, .int .i64 x.f2, .string x.f3, .int .i64 x.f4, .slice Ap6 x.f5.length cp6], .agg #[.int .i64 y.f0, .int .i64 y.f1.f0, .int .i64 y.f1.f1, .int .i64 y.f2, .string y.f3, .int .i64 y.f4, .slice Aq6 y.f5.length cq6]] W fun r w' => r = .returned (.bool (sameE x y)) ∧ Below W.heap.size W w' := by
  have HS := Sat.start W
  rw [sameE_full]
  rw [h0, Bool.true_and, h1, Bool.false_and]
  clear gp6 gq6 ih6
  go_enter Tryd.func11, Tryd.ntmps11
  go_upto_region 1 with (first | ((with_reducible refine gate_dst (N := 2) rfl ?_); go_must (refine ev_box HS rfl (N := 2) rfl (cs := #[.int .i64 x.f0, .int .i64 x.f1.f0, .int .i64 x.f1.f1, .int .i64 x.f2, .string x.f3, .int .i64 x.f4, .slice Ap6 x.f5.length cp6]) (t := 31) ?hrun ?_); (case hrun => first | (go_simp; done) | (go_simp; rfl)); clear HS; intro g2 w HS) | ((with_reducible refine gate_dst (N := 3) rfl ?_); go_must (refine ev_box HS rfl (N := 3) rfl (cs := #[.int .i64 y.f0, .int .i64 y.f1.f0, .int .i64 y.f1.f1, .int .i64 y.f2, .string y.f3, .int .i64 y.f4, .slice Aq6 y.f5.length cq6]) (t := 31) ?hrun ?_); (case hrun => first | (go_simp; done) | (go_simp; rfl)); clear HS; intro g3 w HS))
  have cb2 := HS.cell 1 rfl
  have cb3 := HS.cell 0 rfl
  go_wp2
  go_ret
  exact ⟨rfl, HS.old 2 rfl⟩
set_option maxRecDepth 100000 in
set_option maxHeartbeats 2000000 in
theorem sameE_2 (x y : S31) {Ap6 : Option Addr} {cp6 : Nat} {Aq6 : Option Addr} {cq6 : Nat} (W : World) (gp6 : Kd.C k31 W Ap6 x.f5.length x.f5) (gq6 : Kd.C k31 W Aq6 y.f5.length y.f5) (ih6 : ∀ e ∈ x.f5, SameEC e) (h0 : (x.f0 == y.f0) = true) (h1 : (x.f2 == y.f2) = true) (h2 : (x.f3.toList == y.f3.toList) = false) :
    Calls Tryd.prog 11 #[.agg #[.int .i64 x.f0, .int .i64 x.f1.f0, .int .i64 x.f1.f1, .int .i64 x.f2, .string x.f3, .int .i64 x.f4, .slice Ap6 x.f5.length cp6], .agg #[.int .i64 y.f0, .int .i64 y.f1.f0, .int .i64 y.f1.f1, .int .i64 y.f2, .string y.f3, .int .i64 y.f4, .slice Aq6 y.f5.length cq6]] W fun r w' => r = .returned (.bool (sameE x y)) ∧ Below W.heap.size W w' := by
  have HS := Sat.start W
  rw [sameE_full]
  rw [h0, Bool.true_and, h1, Bool.true_and, h2, Bool.false_and]
  clear gp6 gq6 ih6
  go_enter Tryd.func11, Tryd.ntmps11
  go_upto_region 1 with (first | ((with_reducible refine gate_dst (N := 2) rfl ?_); go_must (refine ev_box HS rfl (N := 2) rfl (cs := #[.int .i64 x.f0, .int .i64 x.f1.f0, .int .i64 x.f1.f1, .int .i64 x.f2, .string x.f3, .int .i64 x.f4, .slice Ap6 x.f5.length cp6]) (t := 31) ?hrun ?_); (case hrun => first | (go_simp; done) | (go_simp; rfl)); clear HS; intro g2 w HS) | ((with_reducible refine gate_dst (N := 3) rfl ?_); go_must (refine ev_box HS rfl (N := 3) rfl (cs := #[.int .i64 y.f0, .int .i64 y.f1.f0, .int .i64 y.f1.f1, .int .i64 y.f2, .string y.f3, .int .i64 y.f4, .slice Aq6 y.f5.length cq6]) (t := 31) ?hrun ?_); (case hrun => first | (go_simp; done) | (go_simp; rfl)); clear HS; intro g3 w HS))
  have cb2 := HS.cell 1 rfl
  have cb3 := HS.cell 0 rfl
  go_wp2
  go_ret
  exact ⟨rfl, HS.old 2 rfl⟩
set_option maxRecDepth 100000 in
set_option maxHeartbeats 2000000 in
theorem sameE_3 (x y : S31) {Ap6 : Option Addr} {cp6 : Nat} {Aq6 : Option Addr} {cq6 : Nat} (W : World) (gp6 : Kd.C k31 W Ap6 x.f5.length x.f5) (gq6 : Kd.C k31 W Aq6 y.f5.length y.f5) (ih6 : ∀ e ∈ x.f5, SameEC e) (h0 : (x.f0 == y.f0) = true) (h1 : (x.f2 == y.f2) = true) (h2 : (x.f3.toList == y.f3.toList) = true) (h3 : (x.f4 == y.f4) = false) :
    Calls Tryd.prog 11 #[.agg #[.int .i64 x.f0, .int .i64 x.f1.f0, .int .i64 x.f1.f1, .int .i64 x.f2, .string x.f3, .int .i64 x.f4, .slice Ap6 x.f5.length cp6], .agg #[.int .i64 y.f0, .int .i64 y.f1.f0, .int .i64 y.f1.f1, .int .i64 y.f2, .string y.f3, .int .i64 y.f4, .slice Aq6 y.f5.length cq6]] W fun r w' => r = .returned (.bool (sameE x y)) ∧ Below W.heap.size W w' := by
  have HS := Sat.start W
  rw [sameE_full]
  rw [h0, Bool.true_and, h1, Bool.true_and, h2, Bool.true_and, h3, Bool.false_and]
  clear gp6 gq6 ih6
  go_enter Tryd.func11, Tryd.ntmps11
  go_upto_region 1 with (first | ((with_reducible refine gate_dst (N := 2) rfl ?_); go_must (refine ev_box HS rfl (N := 2) rfl (cs := #[.int .i64 x.f0, .int .i64 x.f1.f0, .int .i64 x.f1.f1, .int .i64 x.f2, .string x.f3, .int .i64 x.f4, .slice Ap6 x.f5.length cp6]) (t := 31) ?hrun ?_); (case hrun => first | (go_simp; done) | (go_simp; rfl)); clear HS; intro g2 w HS) | ((with_reducible refine gate_dst (N := 3) rfl ?_); go_must (refine ev_box HS rfl (N := 3) rfl (cs := #[.int .i64 y.f0, .int .i64 y.f1.f0, .int .i64 y.f1.f1, .int .i64 y.f2, .string y.f3, .int .i64 y.f4, .slice Aq6 y.f5.length cq6]) (t := 31) ?hrun ?_); (case hrun => first | (go_simp; done) | (go_simp; rfl)); clear HS; intro g3 w HS))
  have cb2 := HS.cell 1 rfl
  have cb3 := HS.cell 0 rfl
  go_wp2
  go_ret
  exact ⟨rfl, HS.old 2 rfl⟩
set_option maxRecDepth 100000 in
set_option maxHeartbeats 2000000 in
theorem sameE_4 (x y : S31) {Ap6 : Option Addr} {cp6 : Nat} {Aq6 : Option Addr} {cq6 : Nat} (W : World) (gp6 : Kd.C k31 W Ap6 x.f5.length x.f5) (gq6 : Kd.C k31 W Aq6 y.f5.length y.f5) (ih6 : ∀ e ∈ x.f5, SameEC e) (h0 : (x.f0 == y.f0) = true) (h1 : (x.f2 == y.f2) = true) (h2 : (x.f3.toList == y.f3.toList) = true) (h3 : (x.f4 == y.f4) = true) :
    Calls Tryd.prog 11 #[.agg #[.int .i64 x.f0, .int .i64 x.f1.f0, .int .i64 x.f1.f1, .int .i64 x.f2, .string x.f3, .int .i64 x.f4, .slice Ap6 x.f5.length cp6], .agg #[.int .i64 y.f0, .int .i64 y.f1.f0, .int .i64 y.f1.f1, .int .i64 y.f2, .string y.f3, .int .i64 y.f4, .slice Aq6 y.f5.length cq6]] W fun r w' => r = .returned (.bool (sameE x y)) ∧ Below W.heap.size W w' := by
  have HS := Sat.start W
  rw [sameE_full]
  rw [h0, Bool.true_and, h1, Bool.true_and, h2, Bool.true_and, h3, Bool.true_and]
  have HK4 := Aside0.mk (fun (w : World) (hb : Below W.heap.size W w) => eqfE_calls (A := Ap6) (A' := Aq6) (c := cp6) (c' := cq6) ih6 w (Kd.C_below gp6 hb) (Kd.C_below gq6 hb))
  obtain ⟨b, hb0⟩ : ∃ b, b = (allB sameE x.f5 y.f5) := ⟨_, rfl⟩
  rw [← hb0] at HK4 ⊢
  clear hb0
  clear gp6 gq6 ih6
  go_enter Tryd.func11, Tryd.ntmps11
  go_upto_region 1 with (first | ((with_reducible refine gate_dst (N := 2) rfl ?_); go_must (refine ev_box HS rfl (N := 2) rfl (cs := #[.int .i64 x.f0, .int .i64 x.f1.f0, .int .i64 x.f1.f1, .int .i64 x.f2, .string x.f3, .int .i64 x.f4, .slice Ap6 x.f5.length cp6]) (t := 31) ?hrun ?_); (case hrun => first | (go_simp; done) | (go_simp; rfl)); clear HS; intro g2 w HS) | ((with_reducible refine gate_dst (N := 3) rfl ?_); go_must (refine ev_box HS rfl (N := 3) rfl (cs := #[.int .i64 y.f0, .int .i64 y.f1.f0, .int .i64 y.f1.f1, .int .i64 y.f2, .string y.f3, .int .i64 y.f4, .slice Aq6 y.f5.length cq6]) (t := 31) ?hrun ?_); (case hrun => first | (go_simp; done) | (go_simp; rfl)); clear HS; intro g3 w HS))
  have cb2 := HS.cell 1 rfl
  have cb3 := HS.cell 0 rfl
  go_wp2_with (first | ((try (refine gate_guard (by rfl) ?_; dsimp only)); go_at_call 23; (with_reducible refine (HK4.out _ (HS.old 2 rfl)).mono ?_); rintro e w_ ⟨rfl, hb⟩; replace HS := HS.below hb; clear hb cb2 cb3; have cb2 := HS.cell 1 rfl; have cb3 := HS.cell 0 rfl))
  go_ret
  exact ⟨rfl, HS.old 2 rfl⟩
theorem sameE_all (x : S31) (ih6 : ∀ e ∈ x.f5, SameEC e) : SameEC x := by
  intro y W cx cy hx hy
  obtain ⟨Ap6, cp6, rfl, lp6, gp6⟩ := k31_open hx
  obtain ⟨Aq6, cq6, rfl, lq6, gq6⟩ := k31_open hy
  cases h0 : (x.f0 == y.f0)
  · exact sameE_0 x y W gp6 gq6 ih6 h0
  cases h1 : (x.f2 == y.f2)
  · exact sameE_1 x y W gp6 gq6 ih6 h0 h1
  cases h2 : (x.f3.toList == y.f3.toList)
  · exact sameE_2 x y W gp6 gq6 ih6 h0 h1 h2
  cases h3 : (x.f4 == y.f4)
  · exact sameE_3 x y W gp6 gq6 ih6 h0 h1 h2 h3
  exact sameE_4 x y W gp6 gq6 ih6 h0 h1 h2 h3
theorem sameE_calls : ∀ x : S31, SameEC x
  | ⟨k, p, num, name, op, kids⟩ => sameE_all ⟨k, p, num, name, op, kids⟩ (fun e he => sameE_calls e)
termination_by x => SizeOf.sizeOf x
decreasing_by
  all_goals (dsimp only at *; simp only [S31.mk.sizeOf_spec]; have := List.sizeOf_lt_of_mem he; omega)
theorem sameS_full (x y : S38) : sameS x y = ((x.f0 == y.f0) && ((x.f2.toList == y.f2.toList) && ((allB sameE x.f3 y.f3) && ((allB sameS x.f4 y.f4) && (allB sameS x.f5 y.f5))))) := sameS_eq x y
set_option maxRecDepth 100000 in
set_option maxHeartbeats 2000000 in
theorem sameS_0 (x y : S38) {Ap4 : Option Addr} {cp4 : Nat} {Ap5 : Option Addr} {cp5 : Nat} {Ap6 : Option Addr} {cp6 : Nat} {Aq4 : Option Addr} {cq4 : Nat} {Aq5 : Option Addr} {cq5 : Nat} {Aq6 : Option Addr} {cq6 : Nat} (W : World) (gp4 : Kd.C k31 W Ap4 x.f3.length x.f3) (gp5 : Kd.C k38 W Ap5 x.f4.length x.f4) (gp6 : Kd.C k38 W Ap6 x.f5.length x.f5) (gq4 : Kd.C k31 W Aq4 y.f3.length y.f3) (gq5 : Kd.C k38 W Aq5 y.f4.length y.f4) (gq6 : Kd.C k38 W Aq6 y.f5.length y.f5) (ih4 : ∀ e ∈ x.f3, SameEC e) (ih5 : ∀ e ∈ x.f4, SameSC e) (ih6 : ∀ e ∈ x.f5, SameSC e) (h0 : (x.f0 == y.f0) = false) :
    Calls Tryd.prog 12 #[.agg #[.int .i64 x.f0, .int .i64 x.f1.f0, .int .i64 x.f1.f1, .string x.f2, .slice Ap4 x.f3.length cp4, .slice Ap5 x.f4.length cp5, .slice Ap6 x.f5.length cp6], .agg #[.int .i64 y.f0, .int .i64 y.f1.f0, .int .i64 y.f1.f1, .string y.f2, .slice Aq4 y.f3.length cq4, .slice Aq5 y.f4.length cq5, .slice Aq6 y.f5.length cq6]] W fun r w' => r = .returned (.bool (sameS x y)) ∧ Below W.heap.size W w' := by
  have HS := Sat.start W
  rw [sameS_full]
  rw [h0, Bool.false_and]
  clear gp4 gq4 gp5 gq5 gp6 gq6 ih4 ih5 ih6
  go_enter Tryd.func12, Tryd.ntmps12
  go_upto_region 1 with (first | ((with_reducible refine gate_dst (N := 2) rfl ?_); go_must (refine ev_box HS rfl (N := 2) rfl (cs := #[.int .i64 x.f0, .int .i64 x.f1.f0, .int .i64 x.f1.f1, .string x.f2, .slice Ap4 x.f3.length cp4, .slice Ap5 x.f4.length cp5, .slice Ap6 x.f5.length cp6]) (t := 38) ?hrun ?_); (case hrun => first | (go_simp; done) | (go_simp; rfl)); clear HS; intro g2 w HS) | ((with_reducible refine gate_dst (N := 3) rfl ?_); go_must (refine ev_box HS rfl (N := 3) rfl (cs := #[.int .i64 y.f0, .int .i64 y.f1.f0, .int .i64 y.f1.f1, .string y.f2, .slice Aq4 y.f3.length cq4, .slice Aq5 y.f4.length cq5, .slice Aq6 y.f5.length cq6]) (t := 38) ?hrun ?_); (case hrun => first | (go_simp; done) | (go_simp; rfl)); clear HS; intro g3 w HS))
  have cb2 := HS.cell 1 rfl
  have cb3 := HS.cell 0 rfl
  go_wp2
  go_ret
  exact ⟨rfl, HS.old 2 rfl⟩
set_option maxRecDepth 100000 in
set_option maxHeartbeats 2000000 in
theorem sameS_1 (x y : S38) {Ap4 : Option Addr} {cp4 : Nat} {Ap5 : Option Addr} {cp5 : Nat} {Ap6 : Option Addr} {cp6 : Nat} {Aq4 : Option Addr} {cq4 : Nat} {Aq5 : Option Addr} {cq5 : Nat} {Aq6 : Option Addr} {cq6 : Nat} (W : World) (gp4 : Kd.C k31 W Ap4 x.f3.length x.f3) (gp5 : Kd.C k38 W Ap5 x.f4.length x.f4) (gp6 : Kd.C k38 W Ap6 x.f5.length x.f5) (gq4 : Kd.C k31 W Aq4 y.f3.length y.f3) (gq5 : Kd.C k38 W Aq5 y.f4.length y.f4) (gq6 : Kd.C k38 W Aq6 y.f5.length y.f5) (ih4 : ∀ e ∈ x.f3, SameEC e) (ih5 : ∀ e ∈ x.f4, SameSC e) (ih6 : ∀ e ∈ x.f5, SameSC e) (h0 : (x.f0 == y.f0) = true) (h1 : (x.f2.toList == y.f2.toList) = false) :
    Calls Tryd.prog 12 #[.agg #[.int .i64 x.f0, .int .i64 x.f1.f0, .int .i64 x.f1.f1, .string x.f2, .slice Ap4 x.f3.length cp4, .slice Ap5 x.f4.length cp5, .slice Ap6 x.f5.length cp6], .agg #[.int .i64 y.f0, .int .i64 y.f1.f0, .int .i64 y.f1.f1, .string y.f2, .slice Aq4 y.f3.length cq4, .slice Aq5 y.f4.length cq5, .slice Aq6 y.f5.length cq6]] W fun r w' => r = .returned (.bool (sameS x y)) ∧ Below W.heap.size W w' := by
  have HS := Sat.start W
  rw [sameS_full]
  rw [h0, Bool.true_and, h1, Bool.false_and]
  clear gp4 gq4 gp5 gq5 gp6 gq6 ih4 ih5 ih6
  go_enter Tryd.func12, Tryd.ntmps12
  go_upto_region 1 with (first | ((with_reducible refine gate_dst (N := 2) rfl ?_); go_must (refine ev_box HS rfl (N := 2) rfl (cs := #[.int .i64 x.f0, .int .i64 x.f1.f0, .int .i64 x.f1.f1, .string x.f2, .slice Ap4 x.f3.length cp4, .slice Ap5 x.f4.length cp5, .slice Ap6 x.f5.length cp6]) (t := 38) ?hrun ?_); (case hrun => first | (go_simp; done) | (go_simp; rfl)); clear HS; intro g2 w HS) | ((with_reducible refine gate_dst (N := 3) rfl ?_); go_must (refine ev_box HS rfl (N := 3) rfl (cs := #[.int .i64 y.f0, .int .i64 y.f1.f0, .int .i64 y.f1.f1, .string y.f2, .slice Aq4 y.f3.length cq4, .slice Aq5 y.f4.length cq5, .slice Aq6 y.f5.length cq6]) (t := 38) ?hrun ?_); (case hrun => first | (go_simp; done) | (go_simp; rfl)); clear HS; intro g3 w HS))
  have cb2 := HS.cell 1 rfl
  have cb3 := HS.cell 0 rfl
  go_wp2
  go_ret
  exact ⟨rfl, HS.old 2 rfl⟩
set_option maxRecDepth 100000 in
set_option maxHeartbeats 2000000 in
theorem sameS_2 (x y : S38) {Ap4 : Option Addr} {cp4 : Nat} {Ap5 : Option Addr} {cp5 : Nat} {Ap6 : Option Addr} {cp6 : Nat} {Aq4 : Option Addr} {cq4 : Nat} {Aq5 : Option Addr} {cq5 : Nat} {Aq6 : Option Addr} {cq6 : Nat} (W : World) (gp4 : Kd.C k31 W Ap4 x.f3.length x.f3) (gp5 : Kd.C k38 W Ap5 x.f4.length x.f4) (gp6 : Kd.C k38 W Ap6 x.f5.length x.f5) (gq4 : Kd.C k31 W Aq4 y.f3.length y.f3) (gq5 : Kd.C k38 W Aq5 y.f4.length y.f4) (gq6 : Kd.C k38 W Aq6 y.f5.length y.f5) (ih4 : ∀ e ∈ x.f3, SameEC e) (ih5 : ∀ e ∈ x.f4, SameSC e) (ih6 : ∀ e ∈ x.f5, SameSC e) (h0 : (x.f0 == y.f0) = true) (h1 : (x.f2.toList == y.f2.toList) = true) (h2 : (allB sameE x.f3 y.f3) = false) :
    Calls Tryd.prog 12 #[.agg #[.int .i64 x.f0, .int .i64 x.f1.f0, .int .i64 x.f1.f1, .string x.f2, .slice Ap4 x.f3.length cp4, .slice Ap5 x.f4.length cp5, .slice Ap6 x.f5.length cp6], .agg #[.int .i64 y.f0, .int .i64 y.f1.f0, .int .i64 y.f1.f1, .string y.f2, .slice Aq4 y.f3.length cq4, .slice Aq5 y.f4.length cq5, .slice Aq6 y.f5.length cq6]] W fun r w' => r = .returned (.bool (sameS x y)) ∧ Below W.heap.size W w' := by
  have HS := Sat.start W
  rw [sameS_full]
  rw [h0, Bool.true_and, h1, Bool.true_and, h2, Bool.false_and]
  have HK2 := Aside0.mk (fun (w : World) (hb : Below W.heap.size W w) => eqfE_calls (A := Ap4) (A' := Aq4) (c := cp4) (c' := cq4) ih4 w (Kd.C_below gp4 hb) (Kd.C_below gq4 hb))
  rw [h2] at HK2
  clear h2
  clear gp4 gq4 gp5 gq5 gp6 gq6 ih4 ih5 ih6
  go_enter Tryd.func12, Tryd.ntmps12
  go_upto_region 1 with (first | ((with_reducible refine gate_dst (N := 2) rfl ?_); go_must (refine ev_box HS rfl (N := 2) rfl (cs := #[.int .i64 x.f0, .int .i64 x.f1.f0, .int .i64 x.f1.f1, .string x.f2, .slice Ap4 x.f3.length cp4, .slice Ap5 x.f4.length cp5, .slice Ap6 x.f5.length cp6]) (t := 38) ?hrun ?_); (case hrun => first | (go_simp; done) | (go_simp; rfl)); clear HS; intro g2 w HS) | ((with_reducible refine gate_dst (N := 3) rfl ?_); go_must (refine ev_box HS rfl (N := 3) rfl (cs := #[.int .i64 y.f0, .int .i64 y.f1.f0, .int .i64 y.f1.f1, .string y.f2, .slice Aq4 y.f3.length cq4, .slice Aq5 y.f4.length cq5, .slice Aq6 y.f5.length cq6]) (t := 38) ?hrun ?_); (case hrun => first | (go_simp; done) | (go_simp; rfl)); clear HS; intro g3 w HS))
  have cb2 := HS.cell 1 rfl
  have cb3 := HS.cell 0 rfl
  go_wp2_with (first | ((try (refine gate_guard (by rfl) ?_; dsimp only)); go_at_call 23; (with_reducible refine (HK2.out _ (HS.old 2 rfl)).mono ?_); rintro e w_ ⟨rfl, hb⟩; replace HS := HS.below hb; clear hb cb2 cb3; have cb2 := HS.cell 1 rfl; have cb3 := HS.cell 0 rfl))
  go_ret
  exact ⟨rfl, HS.old 2 rfl⟩
set_option maxRecDepth 100000 in
set_option maxHeartbeats 2000000 in
theorem sameS_3 (x y : S38) {Ap4 : Option Addr} {cp4 : Nat} {Ap5 : Option Addr} {cp5 : Nat} {Ap6 : Option Addr} {cp6 : Nat} {Aq4 : Option Addr} {cq4 : Nat} {Aq5 : Option Addr} {cq5 : Nat} {Aq6 : Option Addr} {cq6 : Nat} (W : World) (gp4 : Kd.C k31 W Ap4 x.f3.length x.f3) (gp5 : Kd.C k38 W Ap5 x.f4.length x.f4) (gp6 : Kd.C k38 W Ap6 x.f5.length x.f5) (gq4 : Kd.C k31 W Aq4 y.f3.length y.f3) (gq5 : Kd.C k38 W Aq5 y.f4.length y.f4) (gq6 : Kd.C k38 W Aq6 y.f5.length y.f5) (ih4 : ∀ e ∈ x.f3, SameEC e) (ih5 : ∀ e ∈ x.f4, SameSC e) (ih6 : ∀ e ∈ x.f5, SameSC e) (h0 : (x.f0 == y.f0) = true) (h1 : (x.f2.toList == y.f2.toList) = true) (h2 : (allB sameE x.f3 y.f3) = true) (h3 : (allB sameS x.f4 y.f4) = false) :
    Calls Tryd.prog 12 #[.agg #[.int .i64 x.f0, .int .i64 x.f1.f0, .int .i64 x.f1.f1, .string x.f2, .slice Ap4 x.f3.length cp4, .slice Ap5 x.f4.length cp5, .slice Ap6 x.f5.length cp6], .agg #[.int .i64 y.f0, .int .i64 y.f1.f0, .int .i64 y.f1.f1, .string y.f2, .slice Aq4 y.f3.length cq4, .slice Aq5 y.f4.length cq5, .slice Aq6 y.f5.length cq6]] W fun r w' => r = .returned (.bool (sameS x y)) ∧ Below W.heap.size W w' := by
  have HS := Sat.start W
  rw [sameS_full]
  rw [h0, Bool.true_and, h1, Bool.true_and, h2, Bool.true_and, h3, Bool.false_and]
  have HK2 := Aside0.mk (fun (w : World) (hb : Below W.heap.size W w) => eqfE_calls (A := Ap4) (A' := Aq4) (c := cp4) (c' := cq4) ih4 w (Kd.C_below gp4 hb) (Kd.C_below gq4 hb))
  rw [h2] at HK2
  have HK3 := Aside0.mk (fun (w : World) (hb : Below W.heap.size W w) => eqfS_calls (A := Ap5) (A' := Aq5) (c := cp5) (c' := cq5) ih5 w (Kd.C_below gp5 hb) (Kd.C_below gq5 hb))
  rw [h3] at HK3
  clear h2
  clear h3
  clear gp4 gq4 gp5 gq5 gp6 gq6 ih4 ih5 ih6
  go_enter Tryd.func12, Tryd.ntmps12
  go_upto_region 1 with (first | ((with_reducible refine gate_dst (N := 2) rfl ?_); go_must (refine ev_box HS rfl (N := 2) rfl (cs := #[.int .i64 x.f0, .int .i64 x.f1.f0, .int .i64 x.f1.f1, .string x.f2, .slice Ap4 x.f3.length cp4, .slice Ap5 x.f4.length cp5, .slice Ap6 x.f5.length cp6]) (t := 38) ?hrun ?_); (case hrun => first | (go_simp; done) | (go_simp; rfl)); clear HS; intro g2 w HS) | ((with_reducible refine gate_dst (N := 3) rfl ?_); go_must (refine ev_box HS rfl (N := 3) rfl (cs := #[.int .i64 y.f0, .int .i64 y.f1.f0, .int .i64 y.f1.f1, .string y.f2, .slice Aq4 y.f3.length cq4, .slice Aq5 y.f4.length cq5, .slice Aq6 y.f5.length cq6]) (t := 38) ?hrun ?_); (case hrun => first | (go_simp; done) | (go_simp; rfl)); clear HS; intro g3 w HS))
  have cb2 := HS.cell 1 rfl
  have cb3 := HS.cell 0 rfl
  go_wp2_with (first | ((try (refine gate_guard (by rfl) ?_; dsimp only)); go_at_call 23; (with_reducible refine (HK2.out _ (HS.old 2 rfl)).mono ?_); rintro e w_ ⟨rfl, hb⟩; replace HS := HS.below hb; clear hb cb2 cb3; have cb2 := HS.cell 1 rfl; have cb3 := HS.cell 0 rfl) | ((try (refine gate_guard (by rfl) ?_; dsimp only)); go_at_call 24; (with_reducible refine (HK3.out _ (HS.old 2 rfl)).mono ?_); rintro e w_ ⟨rfl, hb⟩; replace HS := HS.below hb; clear hb cb2 cb3; have cb2 := HS.cell 1 rfl; have cb3 := HS.cell 0 rfl))
  go_ret
  exact ⟨rfl, HS.old 2 rfl⟩
set_option maxRecDepth 100000 in
set_option maxHeartbeats 2000000 in
theorem sameS_4 (x y : S38) {Ap4 : Option Addr} {cp4 : Nat} {Ap5 : Option Addr} {cp5 : Nat} {Ap6 : Option Addr} {cp6 : Nat} {Aq4 : Option Addr} {cq4 : Nat} {Aq5 : Option Addr} {cq5 : Nat} {Aq6 : Option Addr} {cq6 : Nat} (W : World) (gp4 : Kd.C k31 W Ap4 x.f3.length x.f3) (gp5 : Kd.C k38 W Ap5 x.f4.length x.f4) (gp6 : Kd.C k38 W Ap6 x.f5.length x.f5) (gq4 : Kd.C k31 W Aq4 y.f3.length y.f3) (gq5 : Kd.C k38 W Aq5 y.f4.length y.f4) (gq6 : Kd.C k38 W Aq6 y.f5.length y.f5) (ih4 : ∀ e ∈ x.f3, SameEC e) (ih5 : ∀ e ∈ x.f4, SameSC e) (ih6 : ∀ e ∈ x.f5, SameSC e) (h0 : (x.f0 == y.f0) = true) (h1 : (x.f2.toList == y.f2.toList) = true) (h2 : (allB sameE x.f3 y.f3) = true) (h3 : (allB sameS x.f4 y.f4) = true) :
    Calls Tryd.prog 12 #[.agg #[.int .i64 x.f0, .int .i64 x.f1.f0, .int .i64 x.f1.f1, .string x.f2, .slice Ap4 x.f3.length cp4, .slice Ap5 x.f4.length cp5, .slice Ap6 x.f5.length cp6], .agg #[.int .i64 y.f0, .int .i64 y.f1.f0, .int .i64 y.f1.f1, .string y.f2, .slice Aq4 y.f3.length cq4, .slice Aq5 y.f4.length cq5, .slice Aq6 y.f5.length cq6]] W fun r w' => r = .returned (.bool (sameS x y)) ∧ Below W.heap.size W w' := by
  have HS := Sat.start W
  rw [sameS_full]
  rw [h0, Bool.true_and, h1, Bool.true_and, h2, Bool.true_and, h3, Bool.true_and]
  have HK2 := Aside0.mk (fun (w : World) (hb : Below W.heap.size W w) => eqfE_calls (A := Ap4) (A' := Aq4) (c := cp4) (c' := cq4) ih4 w (Kd.C_below gp4 hb) (Kd.C_below gq4 hb))
  rw [h2] at HK2
  have HK3 := Aside0.mk (fun (w : World) (hb : Below W.heap.size W w) => eqfS_calls (A := Ap5) (A' := Aq5) (c := cp5) (c' := cq5) ih5 w (Kd.C_below gp5 hb) (Kd.C_below gq5 hb))
  rw [h3] at HK3
  have HK4 := Aside0.mk (fun (w : World) (hb : Below W.heap.size W w) => eqfS_calls (A := Ap6) (A' := Aq6) (c := cp6) (c' := cq6) ih6 w (Kd.C_below gp6 hb) (Kd.C_below gq6 hb))
  obtain ⟨b, hb0⟩ : ∃ b, b = (allB sameS x.f5 y.f5) := ⟨_, rfl⟩
  rw [← hb0] at HK4 ⊢
  clear hb0
  clear h2
  clear h3
  clear gp4 gq4 gp5 gq5 gp6 gq6 ih4 ih5 ih6
  go_enter Tryd.func12, Tryd.ntmps12
  go_upto_region 1 with (first | ((with_reducible refine gate_dst (N := 2) rfl ?_); go_must (refine ev_box HS rfl (N := 2) rfl (cs := #[.int .i64 x.f0, .int .i64 x.f1.f0, .int .i64 x.f1.f1, .string x.f2, .slice Ap4 x.f3.length cp4, .slice Ap5 x.f4.length cp5, .slice Ap6 x.f5.length cp6]) (t := 38) ?hrun ?_); (case hrun => first | (go_simp; done) | (go_simp; rfl)); clear HS; intro g2 w HS) | ((with_reducible refine gate_dst (N := 3) rfl ?_); go_must (refine ev_box HS rfl (N := 3) rfl (cs := #[.int .i64 y.f0, .int .i64 y.f1.f0, .int .i64 y.f1.f1, .string y.f2, .slice Aq4 y.f3.length cq4, .slice Aq5 y.f4.length cq5, .slice Aq6 y.f5.length cq6]) (t := 38) ?hrun ?_); (case hrun => first | (go_simp; done) | (go_simp; rfl)); clear HS; intro g3 w HS))
  have cb2 := HS.cell 1 rfl
  have cb3 := HS.cell 0 rfl
  go_wp2_with (first | ((try (refine gate_guard (by rfl) ?_; dsimp only)); go_at_call 23; (with_reducible refine (HK2.out _ (HS.old 2 rfl)).mono ?_); rintro e w_ ⟨rfl, hb⟩; replace HS := HS.below hb; clear hb cb2 cb3; have cb2 := HS.cell 1 rfl; have cb3 := HS.cell 0 rfl) | ((try (refine gate_guard (by rfl) ?_; dsimp only)); go_at_call 24; (with_reducible refine (HK3.out _ (HS.old 2 rfl)).mono ?_); rintro e w_ ⟨rfl, hb⟩; replace HS := HS.below hb; clear hb cb2 cb3; have cb2 := HS.cell 1 rfl; have cb3 := HS.cell 0 rfl) | ((try (refine gate_guard (by rfl) ?_; dsimp only)); go_at_call 24; (with_reducible refine (HK4.out _ (HS.old 2 rfl)).mono ?_); rintro e w_ ⟨rfl, hb⟩; replace HS := HS.below hb; clear hb cb2 cb3; have cb2 := HS.cell 1 rfl; have cb3 := HS.cell 0 rfl))
  go_ret
  exact ⟨rfl, HS.old 2 rfl⟩
theorem sameS_all (x : S38) (ih4 : ∀ e ∈ x.f3, SameEC e) (ih5 : ∀ e ∈ x.f4, SameSC e) (ih6 : ∀ e ∈ x.f5, SameSC e) : SameSC x := by
  intro y W cx cy hx hy
  obtain ⟨Ap4, cp4, Ap5, cp5, Ap6, cp6, rfl, lp4, gp4, lp5, gp5, lp6, gp6⟩ := k38_open hx
  obtain ⟨Aq4, cq4, Aq5, cq5, Aq6, cq6, rfl, lq4, gq4, lq5, gq5, lq6, gq6⟩ := k38_open hy
  cases h0 : (x.f0 == y.f0)
  · exact sameS_0 x y W gp4 gp5 gp6 gq4 gq5 gq6 ih4 ih5 ih6 h0
  cases h1 : (x.f2.toList == y.f2.toList)
  · exact sameS_1 x y W gp4 gp5 gp6 gq4 gq5 gq6 ih4 ih5 ih6 h0 h1
  cases h2 : (allB sameE x.f3 y.f3)
  · exact sameS_2 x y W gp4 gp5 gp6 gq4 gq5 gq6 ih4 ih5 ih6 h0 h1 h2
  cases h3 : (allB sameS x.f4 y.f4)
  · exact sameS_3 x y W gp4 gp5 gp6 gq4 gq5 gq6 ih4 ih5 ih6 h0 h1 h2 h3
  exact sameS_4 x y W gp4 gp5 gp6 gq4 gq5 gq6 ih4 ih5 ih6 h0 h1 h2 h3
theorem sameS_calls : ∀ x : S38, SameSC x
  | ⟨k, p, name, es, th, el⟩ => sameS_all ⟨k, p, name, es, th, el⟩ (fun e _ => sameE_calls e) (fun e he => sameS_calls e) (fun e he => sameS_calls e)
termination_by x => SizeOf.sizeOf x
decreasing_by
  all_goals (dsimp only at *; simp only [S38.mk.sizeOf_spec]; have := List.sizeOf_lt_of_mem he; omega)
theorem sameG_full (x y : S54) : sameG x y = ((x.f0.toList == y.f0.toList) && ((x.f1 == y.f1) && (x.f2 == y.f2))) := rfl
set_option maxRecDepth 100000 in
set_option maxHeartbeats 2000000 in
theorem sameG_0 (x y : S54) (W : World) (h0 : (x.f0.toList == y.f0.toList) = false) :
    Calls Tryd.prog 26 #[.agg #[.string x.f0, .int .i64 x.f1, .int .i64 x.f2, .int .i64 x.f3.f0, .int .i64 x.f3.f1], .agg #[.string y.f0, .int .i64 y.f1, .int .i64 y.f2, .int .i64 y.f3.f0, .int .i64 y.f3.f1]] W fun r w' => r = .returned (.bool (sameG x y)) ∧ Below W.heap.size W w' := by
  have HS := Sat.start W
  rw [sameG_full]
  rw [h0, Bool.false_and]
  go_enter Tryd.func26, Tryd.ntmps26
  go_upto_region 1 with (first | ((with_reducible refine gate_dst (N := 2) rfl ?_); go_must (refine ev_box HS rfl (N := 2) rfl (cs := #[.string x.f0, .int .i64 x.f1, .int .i64 x.f2, .int .i64 x.f3.f0, .int .i64 x.f3.f1]) (t := 54) ?hrun ?_); (case hrun => first | (go_simp; done) | (go_simp; rfl)); clear HS; intro g2 w HS) | ((with_reducible refine gate_dst (N := 3) rfl ?_); go_must (refine ev_box HS rfl (N := 3) rfl (cs := #[.string y.f0, .int .i64 y.f1, .int .i64 y.f2, .int .i64 y.f3.f0, .int .i64 y.f3.f1]) (t := 54) ?hrun ?_); (case hrun => first | (go_simp; done) | (go_simp; rfl)); clear HS; intro g3 w HS))
  have cb2 := HS.cell 1 rfl
  have cb3 := HS.cell 0 rfl
  go_wp2
  go_ret
  exact ⟨rfl, HS.old 2 rfl⟩
set_option maxRecDepth 100000 in
set_option maxHeartbeats 2000000 in
theorem sameG_1 (x y : S54) (W : World) (h0 : (x.f0.toList == y.f0.toList) = true) (h1 : (x.f1 == y.f1) = false) :
    Calls Tryd.prog 26 #[.agg #[.string x.f0, .int .i64 x.f1, .int .i64 x.f2, .int .i64 x.f3.f0, .int .i64 x.f3.f1], .agg #[.string y.f0, .int .i64 y.f1, .int .i64 y.f2, .int .i64 y.f3.f0, .int .i64 y.f3.f1]] W fun r w' => r = .returned (.bool (sameG x y)) ∧ Below W.heap.size W w' := by
  have HS := Sat.start W
  rw [sameG_full]
  rw [h0, Bool.true_and, h1, Bool.false_and]
  go_enter Tryd.func26, Tryd.ntmps26
  go_upto_region 1 with (first | ((with_reducible refine gate_dst (N := 2) rfl ?_); go_must (refine ev_box HS rfl (N := 2) rfl (cs := #[.string x.f0, .int .i64 x.f1, .int .i64 x.f2, .int .i64 x.f3.f0, .int .i64 x.f3.f1]) (t := 54) ?hrun ?_); (case hrun => first | (go_simp; done) | (go_simp; rfl)); clear HS; intro g2 w HS) | ((with_reducible refine gate_dst (N := 3) rfl ?_); go_must (refine ev_box HS rfl (N := 3) rfl (cs := #[.string y.f0, .int .i64 y.f1, .int .i64 y.f2, .int .i64 y.f3.f0, .int .i64 y.f3.f1]) (t := 54) ?hrun ?_); (case hrun => first | (go_simp; done) | (go_simp; rfl)); clear HS; intro g3 w HS))
  have cb2 := HS.cell 1 rfl
  have cb3 := HS.cell 0 rfl
  go_wp2
  go_ret
  exact ⟨rfl, HS.old 2 rfl⟩
set_option maxRecDepth 100000 in
set_option maxHeartbeats 2000000 in
theorem sameG_2 (x y : S54) (W : World) (h0 : (x.f0.toList == y.f0.toList) = true) (h1 : (x.f1 == y.f1) = true) :
    Calls Tryd.prog 26 #[.agg #[.string x.f0, .int .i64 x.f1, .int .i64 x.f2, .int .i64 x.f3.f0, .int .i64 x.f3.f1], .agg #[.string y.f0, .int .i64 y.f1, .int .i64 y.f2, .int .i64 y.f3.f0, .int .i64 y.f3.f1]] W fun r w' => r = .returned (.bool (sameG x y)) ∧ Below W.heap.size W w' := by
  have HS := Sat.start W
  rw [sameG_full]
  rw [h0, Bool.true_and, h1, Bool.true_and]
  obtain ⟨b, hb0⟩ : ∃ b, (x.f2 == y.f2) = b := ⟨_, rfl⟩
  rw [hb0]
  go_enter Tryd.func26, Tryd.ntmps26
  go_upto_region 1 with (first | ((with_reducible refine gate_dst (N := 2) rfl ?_); go_must (refine ev_box HS rfl (N := 2) rfl (cs := #[.string x.f0, .int .i64 x.f1, .int .i64 x.f2, .int .i64 x.f3.f0, .int .i64 x.f3.f1]) (t := 54) ?hrun ?_); (case hrun => first | (go_simp; done) | (go_simp; rfl)); clear HS; intro g2 w HS) | ((with_reducible refine gate_dst (N := 3) rfl ?_); go_must (refine ev_box HS rfl (N := 3) rfl (cs := #[.string y.f0, .int .i64 y.f1, .int .i64 y.f2, .int .i64 y.f3.f0, .int .i64 y.f3.f1]) (t := 54) ?hrun ?_); (case hrun => first | (go_simp; done) | (go_simp; rfl)); clear HS; intro g3 w HS))
  have cb2 := HS.cell 1 rfl
  have cb3 := HS.cell 0 rfl
  go_wp2
  go_ret
  exact ⟨rfl, HS.old 2 rfl⟩
theorem sameG_all (x : S54) : SameGC x := by
  intro y W cx cy hx hy
  obtain rfl := k54_open hx
  obtain rfl := k54_open hy
  cases h0 : (x.f0.toList == y.f0.toList)
  · exact sameG_0 x y W h0
  cases h1 : (x.f1 == y.f1)
  · exact sameG_1 x y W h0 h1
  exact sameG_2 x y W h0 h1
theorem sameG_calls (x : S54) : SameGC x := sameG_all x
theorem sameF_full (x y : S41) : sameF x y = ((x.f0.toList == y.f0.toList) && ((allB strB x.f1 y.f1) && (allB sameS x.f2 y.f2))) := rfl
set_option maxRecDepth 100000 in
set_option maxHeartbeats 2000000 in
theorem sameF_0 (x y : S41) {Ap1 : Option Addr} {cp1 : Nat} {Ap2 : Option Addr} {cp2 : Nat} {Aq1 : Option Addr} {cq1 : Nat} {Aq2 : Option Addr} {cq2 : Nat} (W : World) (gp1 : Kd.C Kd.string W Ap1 x.f1.length x.f1) (gp2 : Kd.C k38 W Ap2 x.f2.length x.f2) (gq1 : Kd.C Kd.string W Aq1 y.f1.length y.f1) (gq2 : Kd.C k38 W Aq2 y.f2.length y.f2) (ih2 : ∀ e ∈ x.f2, SameSC e) (h0 : (x.f0.toList == y.f0.toList) = false) :
    Calls Tryd.prog 28 #[.agg #[.string x.f0, .slice Ap1 x.f1.length cp1, .slice Ap2 x.f2.length cp2, .int .i64 x.f3.f0, .int .i64 x.f3.f1], .agg #[.string y.f0, .slice Aq1 y.f1.length cq1, .slice Aq2 y.f2.length cq2, .int .i64 y.f3.f0, .int .i64 y.f3.f1]] W fun r w' => r = .returned (.bool (sameF x y)) ∧ Below W.heap.size W w' := by
  have HS := Sat.start W
  rw [sameF_full]
  rw [h0, Bool.false_and]
  clear gp1 gq1 gp2 gq2 ih2
  go_enter Tryd.func28, Tryd.ntmps28
  go_upto_region 1 with (first | ((with_reducible refine gate_dst (N := 2) rfl ?_); go_must (refine ev_box HS rfl (N := 2) rfl (cs := #[.string x.f0, .slice Ap1 x.f1.length cp1, .slice Ap2 x.f2.length cp2, .int .i64 x.f3.f0, .int .i64 x.f3.f1]) (t := 41) ?hrun ?_); (case hrun => first | (go_simp; done) | (go_simp; rfl)); clear HS; intro g2 w HS) | ((with_reducible refine gate_dst (N := 3) rfl ?_); go_must (refine ev_box HS rfl (N := 3) rfl (cs := #[.string y.f0, .slice Aq1 y.f1.length cq1, .slice Aq2 y.f2.length cq2, .int .i64 y.f3.f0, .int .i64 y.f3.f1]) (t := 41) ?hrun ?_); (case hrun => first | (go_simp; done) | (go_simp; rfl)); clear HS; intro g3 w HS))
  have cb2 := HS.cell 1 rfl
  have cb3 := HS.cell 0 rfl
  go_wp2
  go_ret
  exact ⟨rfl, HS.old 2 rfl⟩
set_option maxRecDepth 100000 in
set_option maxHeartbeats 2000000 in
theorem sameF_1 (x y : S41) {Ap1 : Option Addr} {cp1 : Nat} {Ap2 : Option Addr} {cp2 : Nat} {Aq1 : Option Addr} {cq1 : Nat} {Aq2 : Option Addr} {cq2 : Nat} (W : World) (gp1 : Kd.C Kd.string W Ap1 x.f1.length x.f1) (gp2 : Kd.C k38 W Ap2 x.f2.length x.f2) (gq1 : Kd.C Kd.string W Aq1 y.f1.length y.f1) (gq2 : Kd.C k38 W Aq2 y.f2.length y.f2) (ih2 : ∀ e ∈ x.f2, SameSC e) (h0 : (x.f0.toList == y.f0.toList) = true) (h1 : (allB strB x.f1 y.f1) = false) :
    Calls Tryd.prog 28 #[.agg #[.string x.f0, .slice Ap1 x.f1.length cp1, .slice Ap2 x.f2.length cp2, .int .i64 x.f3.f0, .int .i64 x.f3.f1], .agg #[.string y.f0, .slice Aq1 y.f1.length cq1, .slice Aq2 y.f2.length cq2, .int .i64 y.f3.f0, .int .i64 y.f3.f1]] W fun r w' => r = .returned (.bool (sameF x y)) ∧ Below W.heap.size W w' := by
  have HS := Sat.start W
  rw [sameF_full]
  rw [h0, Bool.true_and, h1, Bool.false_and]
  have HK1 := Aside0.mk (fun (w : World) (hb : Below W.heap.size W w) => equal_strs (A := Ap1) (A' := Aq1) (c := cp1) (c' := cq1) w (Kd.C_below gp1 hb) (Kd.C_below gq1 hb))
  rw [h1] at HK1
  clear h1
  clear gp1 gq1 gp2 gq2 ih2
  go_enter Tryd.func28, Tryd.ntmps28
  go_upto_region 1 with (first | ((with_reducible refine gate_dst (N := 2) rfl ?_); go_must (refine ev_box HS rfl (N := 2) rfl (cs := #[.string x.f0, .slice Ap1 x.f1.length cp1, .slice Ap2 x.f2.length cp2, .int .i64 x.f3.f0, .int .i64 x.f3.f1]) (t := 41) ?hrun ?_); (case hrun => first | (go_simp; done) | (go_simp; rfl)); clear HS; intro g2 w HS) | ((with_reducible refine gate_dst (N := 3) rfl ?_); go_must (refine ev_box HS rfl (N := 3) rfl (cs := #[.string y.f0, .slice Aq1 y.f1.length cq1, .slice Aq2 y.f2.length cq2, .int .i64 y.f3.f0, .int .i64 y.f3.f1]) (t := 41) ?hrun ?_); (case hrun => first | (go_simp; done) | (go_simp; rfl)); clear HS; intro g3 w HS))
  have cb2 := HS.cell 1 rfl
  have cb3 := HS.cell 0 rfl
  go_wp2_with (first | ((try (refine gate_guard (by rfl) ?_; dsimp only)); go_at_call 29; (with_reducible refine (HK1.out _ (HS.old 2 rfl)).mono ?_); rintro e w_ ⟨rfl, hb⟩; replace HS := HS.below hb; clear hb cb2 cb3; have cb2 := HS.cell 1 rfl; have cb3 := HS.cell 0 rfl))
  go_ret
  exact ⟨rfl, HS.old 2 rfl⟩
set_option maxRecDepth 100000 in
set_option maxHeartbeats 2000000 in
theorem sameF_2 (x y : S41) {Ap1 : Option Addr} {cp1 : Nat} {Ap2 : Option Addr} {cp2 : Nat} {Aq1 : Option Addr} {cq1 : Nat} {Aq2 : Option Addr} {cq2 : Nat} (W : World) (gp1 : Kd.C Kd.string W Ap1 x.f1.length x.f1) (gp2 : Kd.C k38 W Ap2 x.f2.length x.f2) (gq1 : Kd.C Kd.string W Aq1 y.f1.length y.f1) (gq2 : Kd.C k38 W Aq2 y.f2.length y.f2) (ih2 : ∀ e ∈ x.f2, SameSC e) (h0 : (x.f0.toList == y.f0.toList) = true) (h1 : (allB strB x.f1 y.f1) = true) :
    Calls Tryd.prog 28 #[.agg #[.string x.f0, .slice Ap1 x.f1.length cp1, .slice Ap2 x.f2.length cp2, .int .i64 x.f3.f0, .int .i64 x.f3.f1], .agg #[.string y.f0, .slice Aq1 y.f1.length cq1, .slice Aq2 y.f2.length cq2, .int .i64 y.f3.f0, .int .i64 y.f3.f1]] W fun r w' => r = .returned (.bool (sameF x y)) ∧ Below W.heap.size W w' := by
  have HS := Sat.start W
  rw [sameF_full]
  rw [h0, Bool.true_and, h1, Bool.true_and]
  have HK1 := Aside0.mk (fun (w : World) (hb : Below W.heap.size W w) => equal_strs (A := Ap1) (A' := Aq1) (c := cp1) (c' := cq1) w (Kd.C_below gp1 hb) (Kd.C_below gq1 hb))
  rw [h1] at HK1
  have HK2 := Aside0.mk (fun (w : World) (hb : Below W.heap.size W w) => eqfS_calls (A := Ap2) (A' := Aq2) (c := cp2) (c' := cq2) ih2 w (Kd.C_below gp2 hb) (Kd.C_below gq2 hb))
  obtain ⟨b, hb0⟩ : ∃ b, b = (allB sameS x.f2 y.f2) := ⟨_, rfl⟩
  rw [← hb0] at HK2 ⊢
  clear hb0
  clear h1
  clear gp1 gq1 gp2 gq2 ih2
  go_enter Tryd.func28, Tryd.ntmps28
  go_upto_region 1 with (first | ((with_reducible refine gate_dst (N := 2) rfl ?_); go_must (refine ev_box HS rfl (N := 2) rfl (cs := #[.string x.f0, .slice Ap1 x.f1.length cp1, .slice Ap2 x.f2.length cp2, .int .i64 x.f3.f0, .int .i64 x.f3.f1]) (t := 41) ?hrun ?_); (case hrun => first | (go_simp; done) | (go_simp; rfl)); clear HS; intro g2 w HS) | ((with_reducible refine gate_dst (N := 3) rfl ?_); go_must (refine ev_box HS rfl (N := 3) rfl (cs := #[.string y.f0, .slice Aq1 y.f1.length cq1, .slice Aq2 y.f2.length cq2, .int .i64 y.f3.f0, .int .i64 y.f3.f1]) (t := 41) ?hrun ?_); (case hrun => first | (go_simp; done) | (go_simp; rfl)); clear HS; intro g3 w HS))
  have cb2 := HS.cell 1 rfl
  have cb3 := HS.cell 0 rfl
  go_wp2_with (first | ((try (refine gate_guard (by rfl) ?_; dsimp only)); go_at_call 29; (with_reducible refine (HK1.out _ (HS.old 2 rfl)).mono ?_); rintro e w_ ⟨rfl, hb⟩; replace HS := HS.below hb; clear hb cb2 cb3; have cb2 := HS.cell 1 rfl; have cb3 := HS.cell 0 rfl) | ((try (refine gate_guard (by rfl) ?_; dsimp only)); go_at_call 24; (with_reducible refine (HK2.out _ (HS.old 2 rfl)).mono ?_); rintro e w_ ⟨rfl, hb⟩; replace HS := HS.below hb; clear hb cb2 cb3; have cb2 := HS.cell 1 rfl; have cb3 := HS.cell 0 rfl))
  go_ret
  exact ⟨rfl, HS.old 2 rfl⟩
theorem sameF_all (x : S41) (ih2 : ∀ e ∈ x.f2, SameSC e) : SameFC x := by
  intro y W cx cy hx hy
  obtain ⟨Ap1, cp1, Ap2, cp2, rfl, lp1, gp1, lp2, gp2⟩ := k41_open hx
  obtain ⟨Aq1, cq1, Aq2, cq2, rfl, lq1, gq1, lq2, gq2⟩ := k41_open hy
  cases h0 : (x.f0.toList == y.f0.toList)
  · exact sameF_0 x y W gp1 gp2 gq1 gq2 ih2 h0
  cases h1 : (allB strB x.f1 y.f1)
  · exact sameF_1 x y W gp1 gp2 gq1 gq2 ih2 h0 h1
  exact sameF_2 x y W gp1 gp2 gq1 gq2 ih2 h0 h1
theorem sameF_calls (x : S41) : SameFC x := sameF_all x (fun e _ => sameS_calls e)
end Go.Proofs.YtaammdmaldodaaaDoor.B
