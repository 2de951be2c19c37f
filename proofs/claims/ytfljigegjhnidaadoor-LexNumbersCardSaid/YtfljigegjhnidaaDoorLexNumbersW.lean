/- The walk of LexNumbers: for every number and every count of noughts the law returns true. -/
import Derived.Test.YtfljigegjhnidaaDoorStr
import Derived.Test.YtfljigegjhnidaaDoorLexSpec3
namespace Go.Proofs.YtfljigegjhnidaaDoor.B
open Go.RowKit Go.Proofs.YtfljigegjhnidaaDoor.Mine Go.Proofs.YtfljigegjhnidaaDoorW.PrintWords Go.Proofs.YtfljigegjhnidaaDoorW.PrintLast Go.Proofs.YtfljigegjhnidaaDoorW.PrintMore
attribute [local go_sem high] eqA26 eqA28
set_option linter.unusedVariables false
set_option linter.unusedSimpArgs false

/-- The world behind the first lex.All, behind the second. -/
structure UX (w0 W : World) (b : Nat) (c : Array Value) (v : Value) (ts : List S34) : Prop where
  k : W.heap[b]? = some (.cells c 28 (0, 0))
  ho : Kd.R k34 34 W w0.heap.size (fun _ => True) v ts
  bl : Below w0.heap.size w0 W
section
variable {w0 W W' : World} {b : Nat} {c : Array Value} {v : Value} {ts : List S34}
theorem UX.below (h : UX w0 W b c v ts) (hb : Below W.heap.size W W') : UX w0 W' b c v ts := ⟨blk_below h.k hb, Kd.R_below h.ho hb, below_step h.bl hb⟩
theorem UX.drewN (h : UX w0 W b c v ts) (m : Nat) : UX w0 (W.drewN m) b c v ts := h.below (pw_below_drewN (Below.refl _ _) m)
theorem UX.drew (h : UX w0 W b c v ts) : UX w0 W.drew b c v ts := h.below (below_drew (Below.refl _ _))
theorem UX.put (h : UX w0 W b c v ts) (he : w0.heap.size ≤ b) (j : Nat) (u : Value) : UX w0 (W.setCell ⟨b, j, none⟩ u) b (c.setIfInBounds j u) v ts :=
  ⟨blk_set h.k j u, Kd.R_mono (Kd.R_far (Kd.R_types h.ho h.k (by decide)) (fun _ hk => hk.2) u) (fun _ h => h.1), below_set h.bl he⟩
theorem UX.far {b' : Nat} {c' : Array Value} (h : UX w0 W b c v ts) (hk : W.heap[b']? = some (.cells c' 28 (0, 0))) (hn : b ≠ b') (he : w0.heap.size ≤ b') (j : Nat) (u : Value) : UX w0 (W.setCell ⟨b', j, none⟩ u) b c v ts :=
  ⟨blk_far h.k hn _, Kd.R_mono (Kd.R_far (Kd.R_types h.ho hk (by decide)) (fun _ hk => hk.2) u) (fun _ h => h.1), below_set h.bl he⟩
end
structure UY (w0 W : World) (b : Nat) (c : Array Value) (v : Value) (ts : List S34) (b' : Nat) (c' : Array Value) (v' : Value) (ts' : List S34) : Prop where
  x : UX w0 W b c v ts
  y : UX w0 W b' c' v' ts'
section
variable {w0 W W' : World} {b : Nat} {c : Array Value} {v : Value} {ts : List S34} {b' : Nat} {c' : Array Value} {v' : Value} {ts' : List S34}
theorem UY.drewN (h : UY w0 W b c v ts b' c' v' ts') (m : Nat) : UY w0 (W.drewN m) b c v ts b' c' v' ts' := ⟨h.x.drewN m, h.y.drewN m⟩
theorem UY.drew (h : UY w0 W b c v ts b' c' v' ts') : UY w0 W.drew b c v ts b' c' v' ts' := ⟨h.x.drew, h.y.drew⟩
theorem UY.put (h : UY w0 W b c v ts b' c' v' ts') (hn : b ≠ b') (he : w0.heap.size ≤ b') (j : Nat) (u : Value) : UY w0 (W.setCell ⟨b', j, none⟩ u) b c v ts b' (c'.setIfInBounds j u) v' ts' :=
  ⟨h.x.far h.y.k hn he j u, h.y.put he j u⟩
end

set_option maxHeartbeats 8000000 in
set_option maxRecDepth 100000 in
theorem numbers_walk0 (u : Nat) (m : Int) (N : Nat) (T : Nat → ByteArray) (w : World) (hL : GLaid w) (hP : Lib.TabIs Tryd.prog w "internal/strconv.uint64pow10" .u64 Lib.pow10Tab) (hu : u < 18446744073709551616)
    (hT0 : T 0 = ⟨(Lib.decDigits u).toArray⟩) (hT1 : ∀ n, (⟨#[48]⟩ : ByteArray) ++ T n = T (n + 1)) (k : Nat) (hk : 300000 ≤ k)
    (hN : Go.bits .and .i64 m 15 = (N : Int)) (hN16 : N < 16) (hsz : ∀ n, n ≤ N → (T n).size ≤ 40)
    (ts : List S34) (e l c : Int) (hall : lex_All.f k ((⟨#[32]⟩ : ByteArray) ++ T N) = some (ts, e, l, c)) (ts2 : List S34) (e2 l2 c2 : Int) (hall2 : lex_All.f k (T N ++ (⟨#[48, 48, 48, 48, 48, 48, 48, 48, 48, 48, 48, 48, 48, 48, 48, 48, 48, 48, 48]⟩ : ByteArray)) = some (ts2, e2, l2, c2))
    (hcase : (9223372036854775807 < u ∧ e = 11 ∧ l = 1 ∧ c = 2 ∧ ts = []) ∨
      (u ≤ 9223372036854775807 ∧ e = 0 ∧ l = 0 ∧ c = 0 ∧ (∃ p q, ts = [tk 2 (By (T N)) u p, tk 0 [] 0 q]) ∧ ((u = 0 ∧ e2 = 0) ∨ (u ≠ 0 ∧ e2 = 11 ∧ ts2 = [])))) :
    Calls Tryd.prog 7 #[.int .u64 u, .int .i64 m] w fun e w' => e = .returned (.bool true) ∧ Below w.heap.size w w' := by
  have GL := Aside0.mk hL; clear hL
  have GP := Aside0.mk hP; clear hP
  have HB := Aside0.mk (Below.refl w.heap.size w)
  have A1 := Aside0.mk (head_true k hk)
  have A2 := Aside0.mk hall; clear hall
  have A3 := Aside0.mk hall2; clear hall2
  have HC := Aside0.mk hcase; clear hcase
  go_enter Tryd.func7, Tryd.ntmps7
  go_wp2_with (first
    | (go_at_call 9; (with_reducible refine (palingslaw02_head.calls k true _ ?sideG A1.out).mono ?_); (case sideG => exact GL.out.below HB.out); rintro e_ w2 ⟨rfl, hb2⟩; have n1 := Aside0.mk (below_step HB.out hb2); clear HB hb2; have HB := n1; clear n1)
    | (go_at_call 14; (with_reducible refine (formatUint_at u hu _ ?sideG).mono ?_); (case sideG => exact tab_below GP.out (by (with_reducible repeat (first | apply pw_below_drewN | apply below_drew1)); exact HB.out)); rintro e_ w3 ⟨rfl, hb2⟩; have n1 := Aside0.mk (below_step HB.out hb2); clear HB hb2; have HB := n1; clear n1))
  rw [← hT0]
  go_loopg [5, 6] (N + 1) (fun kq v5 v6 w' => ∃ (n : Nat), v5 = .string (T n) ∧ v6 = .int .i64 (n : Int) ∧ Aside0 (n ≤ N ∧ N + 1 ≤ kq + n) ∧ Aside0 (Below w.heap.size w w'))
  case atStart => exact ⟨0, rfl, rfl, ⟨by omega, by omega⟩, ⟨by (with_reducible repeat (first | apply pw_below_drewN | apply below_drew1)); exact HB.out⟩⟩
  case round =>
    clear HB
    obtain ⟨n, rfl, rfl, HQ, HB⟩ := hrel
    cases gk with
    | zero => have := HQ.out; omega
    | succ k1 =>
      obtain ⟨X, hX⟩ : ∃ X : Int, (n : Int) = X := ⟨_, rfl⟩
      simp only [hX]
      have HXn := Aside0.mk hX; clear hX
      have z1 : decide (1 + (T n).size ≤ 9223372036854775807) = true := decide_eq_true (by have := hsz n (by have := HQ.out; omega); omega)
      have z2 := eq_true (show 1 + (T n).size ≤ 9223372036854775807 by have := hsz n (by have := HQ.out; omega); omega)
      have z3 : decide ((T n).size + 19 ≤ 9223372036854775807) = true := decide_eq_true (by have := hsz n (by have := HQ.out; omega); omega)
      have z4 := eq_true (show (T n).size + 19 ≤ 9223372036854775807 by have := hsz n (by have := HQ.out; omega); omega)
      have z5 : ¬ 9223372036854775807 < 1 + (T n).size := by have := hsz n (by have := HQ.out; omega); omega
      have z6 : ¬ 9223372036854775807 < (T n).size + 19 := by have := hsz n (by have := HQ.out; omega); omega
      have z7 : decide (9223372036854775807 < 1 + (T n).size) = false := decide_eq_false z5
      have z8 : decide (9223372036854775807 < (T n).size + 19) = false := decide_eq_false z6
      by_cases hc : n < N
      · have c1 : decide (X < (N : Int)) = true := decide_eq_true (by have := HXn.out; omega)
        have hw : wrap64 (X + 1) = X + 1 := by rw [wrap_small]; all_goals (have := HXn.out; omega)
        have HC_ := Aside0.mk hc; clear hc
        go_wp2
        go_roundg k1
        case measure => omega
        case rel =>
          refine ⟨n + 1, ?_, ?_, ⟨by have := HC_.out; omega, by have := HQ.out; omega⟩, ⟨by (with_reducible repeat (first | apply pw_below_drewN | apply below_drew1)); exact HB.out⟩⟩
          · rw [← hT1]
          · rw [show ((n + 1 : Nat) : Int) = X + 1 by have := HXn.out; omega, hw]
      · have c1 : decide (X < (N : Int)) = false := decide_eq_false (by have := HXn.out; omega)
        obtain rfl : n = N := by have := HQ.out; omega
        clear hc
        go_upto_region 9 with (first
          | (go_at_call 10; (with_reducible refine (lex_All.calls k ((⟨#[32]⟩ : ByteArray) ++ T n) ts e l c _ ?sideG A2.out).mono ?_); (case sideG => exact GL.out.below (by (with_reducible repeat (first | apply pw_below_drewN | apply below_drew1)); exact HB.out)); rintro e_ w4 ⟨v0, rfl, ho0, hb2⟩; have HB4 := Aside0.mk (below_step (by (with_reducible repeat (first | apply pw_below_drewN | apply below_drew1)); exact HB.out) hb2); have HO := Aside0.mk (Kd.R_lower ho0 (below_size (by (with_reducible repeat (first | apply pw_below_drewN | apply below_drew1)); exact HB.out))); clear hb2 ho0 HB)
          | ((with_reducible refine gate_dst (N := 8) rfl ?_); refine box_event ?hg (N := 8) ?hd (cs := #[.int .i64 0, .int .i64 0, .int .i64 0]) (t := 28) ?hr ?_; (case hd => rfl); (case hg => rfl); (case hr => first | (go_simp; done) | (go_simp; rfl)); intro b8 hg8 w5 hb8 hb2; have HE8 := Aside0.mk (show w.heap.size ≤ b8 by rw [hg8]; exact below_size (by (with_reducible repeat (first | apply pw_below_drewN | apply below_drew1)); exact HB4.out)); have HX := Aside0.mk (show UX w w5 b8 #[.int .i64 0, .int .i64 0, .int .i64 0] v0 ts from ⟨hb8, Kd.R_below HO.out hb2, below_step HB4.out hb2⟩); clear HB4 HO hb8 hb2 hg8; have q40 := (blk_cell HX.out.k 0).trans (show _ = some (Value.int .i64 0) from rfl); have q41 := (blk_cell HX.out.k 1).trans (show _ = some (Value.int .i64 0) from rfl); have q42 := (blk_cell HX.out.k 2).trans (show _ = some (Value.int .i64 0) from rfl); have q43 := blk_frozen HX.out.k 0; have q44 := blk_frozen HX.out.k 1; have q45 := blk_frozen HX.out.k 2))
        refine wp_gen (fun W_ => UX w W_ b8 #[.int .i64 e, .int .i64 l, .int .i64 c] v0 ts) ?_ (fun w5 HX => ?_)
        · (with_reducible repeat (first | refine UX.drewN ?_ _ | refine UX.drew ?_)); refine UX.put (c := #[.int .i64 e, .int .i64 l, .int .i64 0]) ?_ HE8.out 2 _; refine UX.put (c := #[.int .i64 e, .int .i64 0, .int .i64 0]) ?_ HE8.out 1 _; refine UX.put (c := #[.int .i64 0, .int .i64 0, .int .i64 0]) ?_ HE8.out 0 _; (with_reducible repeat (first | refine UX.drewN ?_ _ | refine UX.drew ?_)); exact HX.out
        clear q40 q41 q42 q43 q44 q45
        obtain ⟨Ao, co, eo⟩ := Kd.R_slice HX.ho
        subst eo
        have r40 := (blk_cell HX.k 0).trans (show _ = some (Value.int .i64 e) from rfl); have r41 := (blk_cell HX.k 1).trans (show _ = some (Value.int .i64 l) from rfl); have r42 := (blk_cell HX.k 2).trans (show _ = some (Value.int .i64 c) from rfl)
        rcases HC.out with ⟨hu1, rfl, rfl, rfl, rfl⟩ | ⟨hu1, rfl, rfl, rfl, ⟨p, q, rfl⟩, hrest⟩
        · clear HC
          have d1 : decide ((9223372036854775807 : Int) < (u : Int)) = true := decide_eq_true (by omega)
          have d2 : decide (9223372036854775807 < u) = true := decide_eq_true hu1
          clear hu1
          go_wp2
          go_ret
          exact ⟨rfl, by (with_reducible repeat (first | apply pw_below_drewN | apply below_drew1)); exact HX.bl⟩
        · clear HC
          have HR := Aside0.mk hrest; clear hrest
          have d1 : decide ((9223372036854775807 : Int) < (u : Int)) = false := decide_eq_false (by omega)
          have d2 : decide (9223372036854775807 < u) = false := decide_eq_false (by omega)
          clear r40 r41 r42
          have HX0 := Aside0.mk HX; clear HX
          go_upto_region 12 with (first
            | (go_at_call 10; (with_reducible refine (lex_All.calls k (T n ++ (⟨#[48, 48, 48, 48, 48, 48, 48, 48, 48, 48, 48, 48, 48, 48, 48, 48, 48, 48, 48]⟩ : ByteArray)) ts2 e2 l2 c2 _ ?sideG A3.out).mono ?_); (case sideG => exact GL.out.below (by (with_reducible repeat (first | apply pw_below_drewN | apply below_drew1)); exact HX0.out.bl)); rintro e_ w6 ⟨v1, rfl, ho0, hb2⟩; have HX1 := Aside0.mk (show UX w w6 b8 _ _ _ from (show UX w _ b8 _ _ _ from by (with_reducible repeat (first | refine UX.drewN ?_ _ | refine UX.drew ?_)); exact HX0.out).below hb2); have HO := Aside0.mk (Kd.R_lower ho0 (below_size (by (with_reducible repeat (first | apply pw_below_drewN | apply below_drew1)); exact HX0.out.bl))); clear hb2 ho0 HX0)
            | ((with_reducible refine gate_dst (N := 10) rfl ?_); refine box_event ?hg (N := 10) ?hd (cs := #[.int .i64 0, .int .i64 0, .int .i64 0]) (t := 28) ?hr ?_; (case hd => rfl); (case hg => rfl); (case hr => first | (go_simp; done) | (go_simp; rfl)); intro b10 hg10 w7 hb10 hb2; have HE10 := Aside0.mk (show w.heap.size ≤ b10 by rw [hg10]; exact below_size HX1.out.bl); have HNE := Aside0.mk (show b8 ≠ b10 by rw [hg10]; exact Nat.ne_of_lt (blk_lt HX1.out.k)); have HY := Aside0.mk (show UY w w7 b8 _ _ _ b10 #[.int .i64 0, .int .i64 0, .int .i64 0] v1 ts2 from ⟨HX1.out.below hb2, ⟨hb10, Kd.R_below HO.out hb2, below_step HX1.out.bl hb2⟩⟩); clear HX1 HO hb10 hb2 hg10; have q40 := (blk_cell HY.out.y.k 0).trans (show _ = some (Value.int .i64 0) from rfl); have q41 := (blk_cell HY.out.y.k 1).trans (show _ = some (Value.int .i64 0) from rfl); have q42 := (blk_cell HY.out.y.k 2).trans (show _ = some (Value.int .i64 0) from rfl); have q43 := blk_frozen HY.out.y.k 0; have q44 := blk_frozen HY.out.y.k 1; have q45 := blk_frozen HY.out.y.k 2))
          refine wp_gen (fun W_ => UY w W_ b8 #[.int .i64 0, .int .i64 0, .int .i64 0] (.slice Ao ([tk 2 (By (T n)) u p, tk 0 [] 0 q] : List S34).length co) [tk 2 (By (T n)) u p, tk 0 [] 0 q] b10 #[.int .i64 e2, .int .i64 l2, .int .i64 c2] v1 ts2) ?_ (fun w7 HY => ?_)
          · (with_reducible repeat (first | refine UY.drewN ?_ _ | refine UY.drew ?_)); refine UY.put (c' := #[.int .i64 e2, .int .i64 l2, .int .i64 0]) ?_ HNE.out HE10.out 2 _; refine UY.put (c' := #[.int .i64 e2, .int .i64 0, .int .i64 0]) ?_ HNE.out HE10.out 1 _; refine UY.put (c' := #[.int .i64 0, .int .i64 0, .int .i64 0]) ?_ HNE.out HE10.out 0 _; (with_reducible repeat (first | refine UY.drewN ?_ _ | refine UY.drew ?_)); exact HY.out
          clear q40 q41 q42 q43 q44 q45
          obtain ⟨Ao2, co2, eo2⟩ := Kd.R_slice HY.y.ho
          subst eo2
          have r40 := (blk_cell HY.x.k 0).trans (show _ = some (Value.int .i64 0) from rfl); have r41 := (blk_cell HY.x.k 1).trans (show _ = some (Value.int .i64 0) from rfl); have r42 := (blk_cell HY.x.k 2).trans (show _ = some (Value.int .i64 0) from rfl)
          have s40 := (blk_cell HY.y.k 0).trans (show _ = some (Value.int .i64 e2) from rfl)
          obtain ⟨ad, ea, g0, g1, g2, g3, g4⟩ := at_T34 (Kd.R_reads' HY.x.ho).2.2 0 (by decide) (show (0 : Int) < ((2 : Nat) : Int) by decide)
          subst ea
          rw [show rd_T34 [tk 2 (By (T n)) u p, tk 0 [] 0 q] 0 = ⟨2, T n, u, ⟨p.1, p.2⟩⟩ by show tk 2 (By (T n)) u p = _; unfold tk By; rw [Array.toArray_toList]] at g0 g1 g2 g3 g4
          rw [show (0 : Int).toNat * 5 = 0 from rfl, Addr.add_zero'] at g0 g1 g2 g3 g4
          have w1 : IntKind.i64.wrap (u : Int) = (u : Int) := by rw [i64_w, wrap_small] <;> omega
          have w2 : wrap64 (u : Int) = (u : Int) := by rw [wrap_small] <;> omega
          have e5 : ((T n).toList == (T n).toList) = true := beq_self_eq_true _
          have e6 : ((u : Int) == (u : Int)) = true := beq_self_eq_true _
          rcases HR.out with ⟨hu0, he2⟩ | ⟨hu0, he2, ht2⟩
          · have f1 : ((u : Int) == 0) = true := beq_iff_eq.mpr (by omega)
            have f2 : (e2 == 0) = true := beq_iff_eq.mpr he2
            clear HR hu0 he2
            go_wp2
            go_ret
            exact ⟨rfl, by (with_reducible repeat (first | apply pw_below_drewN | apply below_drew1)); exact HY.x.bl⟩
          · have f1 : ((u : Int) == 0) = false := beq_eq_false_iff_ne.mpr (by omega)
            have f2 : (e2 == 0) = false := beq_eq_false_iff_ne.mpr (by omega)
            have f3 : ((ts2.length : Int) == 0) = true := by rw [ht2]; rfl
            clear HR hu0 he2
            go_wp2
            go_ret
            exact ⟨rfl, by (with_reducible repeat (first | apply pw_below_drewN | apply below_drew1)); exact HY.x.bl⟩
end Go.Proofs.YtfljigegjhnidaaDoor.B
