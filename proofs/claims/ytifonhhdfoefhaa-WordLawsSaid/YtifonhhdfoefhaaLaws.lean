/- Sums and products in any order and brackets, shifts one behind the other: the walk of the law, and its facts. -/
import Derived.Test.YtifonhhdfoefhaaPWordLawsx1
import Derived.Test.YtifonhhdfoefhaaMine
namespace Go.Proofs.Ytifonhhdfoefhaa.Laws
open Go.RowKit Go.Proofs.Ytifonhhdfoefhaa.PWordLaws Go.Proofs.Ytifonhhdfoefhaa.Mine Go.Proofs.YtifonhhdfoefhaaW.PrintWords Go.Proofs.YtifonhhdfoefhaaW.PrintLast Go.Proofs.YtifonhhdfoefhaaW.PrintMore
set_option linter.unusedSimpArgs false
set_option linter.unusedVariables false

theorem do_calls (o x y v : Int) (b : Bool) (w : World) (A1 : Aside0 (word_Do.f 20 o x y = some (v, b))) : Calls Try.prog 12 #[.int .i64 o, .int .i64 x, .int .i64 y] w fun e w' => e = .returned (.int .i64 v) ∧ Drawn0 w w' := by
  go_enter Try.func12, Try.ntmps12
  go_wp2_with ((with_reducible refine gate_callee (f := 9) rfl ?_); refine goesL_ (some 13) rfl rfl Try.func9 (by kernel_rfl) rfl #[.int .i64 o, .int .i64 x, .int .i64 y] rfl (by (try simp only [List.map_toArray, List.map_cons, List.map_nil]); first | done | rfl | (simp only [List.length_drop, List.length_take]; rfl)) ?_; (with_reducible refine (word_Do.calls 20 o x y v b _ A1.out).mono ?_); rintro e w' ⟨rfl, ⟨nd, rfl⟩⟩; refine ⟨_, rfl, ?_⟩)
  go_ret
  exact ⟨rfl, by repeat (first | exact Drawn0.refl _ | apply Drawn0.step)⟩

/-- what is asked of an op that goes in any order and brackets -/
def Both (o a b c : Int) : Prop := ∃ p q t, word_Do.f 20 o a b = some (p, true) ∧ word_Do.f 20 o b a = some (p, true) ∧ word_Do.f 20 o p c = some (q, true) ∧ word_Do.f 20 o b c = some (t, true) ∧ word_Do.f 20 o a t = some (q, true)

set_option maxHeartbeats 2000000 in
set_option maxRecDepth 100000 in
theorem laws_walk (a b c n m : Int) (w : World) (hn0 : 0 ≤ n) (hn1 : n < 256) (hm0 : 0 ≤ m) (hm1 : m < 256) (x y : Int) (hx : n % 32 = x) (hy : m % 32 = y) (s1 r1 p1 q1 u v u' v' : Int) (D1 : Aside0 (word_Do.f 20 1 b c = some (s1, true))) (D2 : Aside0 (word_Do.f 20 3 a s1 = some (r1, true))) (D3 : Aside0 (word_Do.f 20 3 a b = some (p1, true))) (D4 : Aside0 (word_Do.f 20 3 a c = some (q1, true))) (D5 : Aside0 (word_Do.f 20 1 p1 q1 = some (r1, true)))
    (E1 : Aside0 (word_Do.f 20 9 a x = some (u, true))) (E2 : Aside0 (word_Do.f 20 9 u y = some (v, true))) (E3 : Aside0 (word_Do.f 20 9 a (x + y) = some (v, true))) (E4 : Aside0 (word_Do.f 20 3 a (wrap64 (2 ^ x.toNat)) = some (u, true))) (F1 : Aside0 (word_Do.f 20 10 a x = some (u', true))) (F2 : Aside0 (word_Do.f 20 10 u' y = some (v', true))) (F3 : Aside0 (word_Do.f 20 10 a (x + y) = some (v', true)))
    (HO : Aside0 (∀ o, (o = 1 ∨ o = 3 ∨ o = 6 ∨ o = 7 ∨ o = 8) → Both o a b c)) :
    Calls Try.prog 6 #[.int .i64 a, .int .i64 b, .int .i64 c, .int .u8 n, .int .u8 m] w fun e w' => e = .returned (.bool true) ∧ Below w.heap.size w w' := by
  have A1 := Aside0.mk (show palingslaw01_head.f 20 = some true by decide +kernel)
  go_enter Try.func6, Try.ntmps6
  go_wp2_with (first
    | ((with_reducible refine gate_callee (f := 8) rfl ?_); refine goesL_ (some 16) rfl rfl Try.func8 (by kernel_rfl) rfl #[] rfl (by (try simp only [List.map_toArray, List.map_cons, List.map_nil]); first | done | rfl | (simp only [List.length_drop, List.length_take]; rfl)) ?_; (with_reducible refine (palingslaw01_head.calls 20 true _ A1.out).mono ?_); rintro e w' ⟨rfl, ⟨nd, rfl⟩⟩; refine ⟨_, rfl, ?_⟩))
  go_loopw [20] (fun v w' => ∃ i : Int, 0 ≤ i ∧ i ≤ 5 ∧ v = .int .i64 i ∧ Aside0 (w'.heap[w.heap.size]? = some (.cells #[.int .i64 1, .int .i64 3, .int .i64 6, .int .i64 7, .int .i64 8] 27 (0, 0))) ∧ Aside0 (Below w.heap.size w w')) (fun v _ => (5 - intOf v).toNat)
  case atStart => exact ⟨0, by omega, by omega, rfl, ⟨by simp [World.alloc, World.drewN]⟩, ⟨by repeat (first | (with_reducible first | exact Below.refl _ _ | exact HB.out | apply below_alloc | apply pw_below_drewN | apply below_drew1) | exact Below.refl _ _ | exact HB.out)⟩⟩
  case round =>
    obtain ⟨i, hi0, hi1, rfl, CB, HB⟩ := hrel
    by_cases hlt : i < 5
    · have hi : i = 0 ∨ i = 1 ∨ i = 2 ∨ i = 3 ∨ i = 4 := by omega
      rcases hi with rfl | rfl | rfl | rfl | rfl
      · obtain ⟨p, q, t, h1, h2, h3, h4, h5⟩ := HO.out 1 (by omega)
        have B1 := Aside0.mk h1
        have B2 := Aside0.mk h2
        have B3 := Aside0.mk h3
        have B4 := Aside0.mk h4
        have B5 := Aside0.mk h5
        clear h1 h2 h3 h4 h5
        have hc := blk_cell CB.out 0
        simp only [Array.getElem?_eq_getElem, List.getElem?_toArray, List.getElem?_cons_zero, List.getElem?_cons_succ] at hc
        go_wp2_with (first
          | ((with_reducible refine gate_calleeT (t := 24) (d := (some 28)) rfl rfl ?_); refine goesT_ (some 28) rfl rfl Try.func12 (by kernel_rfl) rfl #[.int .i64 1, .int .i64 a, .int .i64 b] rfl rfl (by (try simp only [List.map_toArray, List.map_cons, List.map_nil]); first | done | rfl | (simp only [List.length_drop, List.length_take]; rfl)) ?_; (with_reducible refine (do_calls 1 a b p true _ B1).mono ?_); rintro e w' ⟨rfl, ⟨nd, rfl⟩⟩; refine ⟨_, rfl, ?_⟩)
          | ((with_reducible refine gate_calleeT (t := 29) (d := (some 33)) rfl rfl ?_); refine goesT_ (some 33) rfl rfl Try.func12 (by kernel_rfl) rfl #[.int .i64 1, .int .i64 b, .int .i64 a] rfl rfl (by (try simp only [List.map_toArray, List.map_cons, List.map_nil]); first | done | rfl | (simp only [List.length_drop, List.length_take]; rfl)) ?_; (with_reducible refine (do_calls 1 b a p true _ B2).mono ?_); rintro e w' ⟨rfl, ⟨nd, rfl⟩⟩; refine ⟨_, rfl, ?_⟩)
          | (try (refine gate_guard (by rfl) ?_; dsimp only)); ((with_reducible refine gate_calleeT (t := 38) (d := (some 42)) rfl rfl ?_); refine goesT_ (some 42) rfl rfl Try.func12 (by kernel_rfl) rfl #[.int .i64 1, .int .i64 a, .int .i64 b] rfl rfl (by (try simp only [List.map_toArray, List.map_cons, List.map_nil]); first | done | rfl | (simp only [List.length_drop, List.length_take]; rfl)) ?_; (with_reducible refine (do_calls 1 a b p true _ B1).mono ?_); rintro e w' ⟨rfl, ⟨nd, rfl⟩⟩; refine ⟨_, rfl, ?_⟩)
          | (try (refine gate_guard (by rfl) ?_; dsimp only)); ((with_reducible refine gate_calleeT (t := 36) (d := (some 44)) rfl rfl ?_); refine goesT_ (some 44) rfl rfl Try.func12 (by kernel_rfl) rfl #[.int .i64 1, .int .i64 p, .int .i64 c] rfl rfl (by (try simp only [List.map_toArray, List.map_cons, List.map_nil]); first | done | rfl | (simp only [List.length_drop, List.length_take]; rfl)) ?_; (with_reducible refine (do_calls 1 p c q true _ B3).mono ?_); rintro e w' ⟨rfl, ⟨nd, rfl⟩⟩; refine ⟨_, rfl, ?_⟩)
          | (try (refine gate_guard (by rfl) ?_; dsimp only)); ((with_reducible refine gate_calleeT (t := 48) (d := (some 52)) rfl rfl ?_); refine goesT_ (some 52) rfl rfl Try.func12 (by kernel_rfl) rfl #[.int .i64 1, .int .i64 b, .int .i64 c] rfl rfl (by (try simp only [List.map_toArray, List.map_cons, List.map_nil]); first | done | rfl | (simp only [List.length_drop, List.length_take]; rfl)) ?_; (with_reducible refine (do_calls 1 b c t true _ B4).mono ?_); rintro e w' ⟨rfl, ⟨nd, rfl⟩⟩; refine ⟨_, rfl, ?_⟩)
          | (try (refine gate_guard (by rfl) ?_; dsimp only)); ((with_reducible refine gate_calleeT (t := 45) (d := (some 53)) rfl rfl ?_); refine goesT_ (some 53) rfl rfl Try.func12 (by kernel_rfl) rfl #[.int .i64 1, .int .i64 a, .int .i64 t] rfl rfl (by (try simp only [List.map_toArray, List.map_cons, List.map_nil]); first | done | rfl | (simp only [List.length_drop, List.length_take]; rfl)) ?_; (with_reducible refine (do_calls 1 a t q true _ B5).mono ?_); rintro e w' ⟨rfl, ⟨nd, rfl⟩⟩; refine ⟨_, rfl, ?_⟩))
        go_roundw
        case rel => exact ⟨1, by omega, by omega, rfl, ⟨CB.out⟩, ⟨by repeat (first | (with_reducible first | exact Below.refl _ _ | exact HB.out | apply below_alloc | apply pw_below_drewN | apply below_drew1) | exact Below.refl _ _ | exact HB.out)⟩⟩
        case measure => simp [intOf]
      · obtain ⟨p, q, t, h1, h2, h3, h4, h5⟩ := HO.out 3 (by omega)
        have B1 := Aside0.mk h1
        have B2 := Aside0.mk h2
        have B3 := Aside0.mk h3
        have B4 := Aside0.mk h4
        have B5 := Aside0.mk h5
        clear h1 h2 h3 h4 h5
        have hc := blk_cell CB.out 1
        simp only [Array.getElem?_eq_getElem, List.getElem?_toArray, List.getElem?_cons_zero, List.getElem?_cons_succ] at hc
        go_wp2_with (first
          | ((with_reducible refine gate_calleeT (t := 24) (d := (some 28)) rfl rfl ?_); refine goesT_ (some 28) rfl rfl Try.func12 (by kernel_rfl) rfl #[.int .i64 3, .int .i64 a, .int .i64 b] rfl rfl (by (try simp only [List.map_toArray, List.map_cons, List.map_nil]); first | done | rfl | (simp only [List.length_drop, List.length_take]; rfl)) ?_; (with_reducible refine (do_calls 3 a b p true _ B1).mono ?_); rintro e w' ⟨rfl, ⟨nd, rfl⟩⟩; refine ⟨_, rfl, ?_⟩)
          | ((with_reducible refine gate_calleeT (t := 29) (d := (some 33)) rfl rfl ?_); refine goesT_ (some 33) rfl rfl Try.func12 (by kernel_rfl) rfl #[.int .i64 3, .int .i64 b, .int .i64 a] rfl rfl (by (try simp only [List.map_toArray, List.map_cons, List.map_nil]); first | done | rfl | (simp only [List.length_drop, List.length_take]; rfl)) ?_; (with_reducible refine (do_calls 3 b a p true _ B2).mono ?_); rintro e w' ⟨rfl, ⟨nd, rfl⟩⟩; refine ⟨_, rfl, ?_⟩)
          | (try (refine gate_guard (by rfl) ?_; dsimp only)); ((with_reducible refine gate_calleeT (t := 38) (d := (some 42)) rfl rfl ?_); refine goesT_ (some 42) rfl rfl Try.func12 (by kernel_rfl) rfl #[.int .i64 3, .int .i64 a, .int .i64 b] rfl rfl (by (try simp only [List.map_toArray, List.map_cons, List.map_nil]); first | done | rfl | (simp only [List.length_drop, List.length_take]; rfl)) ?_; (with_reducible refine (do_calls 3 a b p true _ B1).mono ?_); rintro e w' ⟨rfl, ⟨nd, rfl⟩⟩; refine ⟨_, rfl, ?_⟩)
          | (try (refine gate_guard (by rfl) ?_; dsimp only)); ((with_reducible refine gate_calleeT (t := 36) (d := (some 44)) rfl rfl ?_); refine goesT_ (some 44) rfl rfl Try.func12 (by kernel_rfl) rfl #[.int .i64 3, .int .i64 p, .int .i64 c] rfl rfl (by (try simp only [List.map_toArray, List.map_cons, List.map_nil]); first | done | rfl | (simp only [List.length_drop, List.length_take]; rfl)) ?_; (with_reducible refine (do_calls 3 p c q true _ B3).mono ?_); rintro e w' ⟨rfl, ⟨nd, rfl⟩⟩; refine ⟨_, rfl, ?_⟩)
          | (try (refine gate_guard (by rfl) ?_; dsimp only)); ((with_reducible refine gate_calleeT (t := 48) (d := (some 52)) rfl rfl ?_); refine goesT_ (some 52) rfl rfl Try.func12 (by kernel_rfl) rfl #[.int .i64 3, .int .i64 b, .int .i64 c] rfl rfl (by (try simp only [List.map_toArray, List.map_cons, List.map_nil]); first | done | rfl | (simp only [List.length_drop, List.length_take]; rfl)) ?_; (with_reducible refine (do_calls 3 b c t true _ B4).mono ?_); rintro e w' ⟨rfl, ⟨nd, rfl⟩⟩; refine ⟨_, rfl, ?_⟩)
          | (try (refine gate_guard (by rfl) ?_; dsimp only)); ((with_reducible refine gate_calleeT (t := 45) (d := (some 53)) rfl rfl ?_); refine goesT_ (some 53) rfl rfl Try.func12 (by kernel_rfl) rfl #[.int .i64 3, .int .i64 a, .int .i64 t] rfl rfl (by (try simp only [List.map_toArray, List.map_cons, List.map_nil]); first | done | rfl | (simp only [List.length_drop, List.length_take]; rfl)) ?_; (with_reducible refine (do_calls 3 a t q true _ B5).mono ?_); rintro e w' ⟨rfl, ⟨nd, rfl⟩⟩; refine ⟨_, rfl, ?_⟩))
        go_roundw
        case rel => exact ⟨2, by omega, by omega, rfl, ⟨CB.out⟩, ⟨by repeat (first | (with_reducible first | exact Below.refl _ _ | exact HB.out | apply below_alloc | apply pw_below_drewN | apply below_drew1) | exact Below.refl _ _ | exact HB.out)⟩⟩
        case measure => simp [intOf]
      · obtain ⟨p, q, t, h1, h2, h3, h4, h5⟩ := HO.out 6 (by omega)
        have B1 := Aside0.mk h1
        have B2 := Aside0.mk h2
        have B3 := Aside0.mk h3
        have B4 := Aside0.mk h4
        have B5 := Aside0.mk h5
        clear h1 h2 h3 h4 h5
        have hc := blk_cell CB.out 2
        simp only [Array.getElem?_eq_getElem, List.getElem?_toArray, List.getElem?_cons_zero, List.getElem?_cons_succ] at hc
        go_wp2_with (first
          | ((with_reducible refine gate_calleeT (t := 24) (d := (some 28)) rfl rfl ?_); refine goesT_ (some 28) rfl rfl Try.func12 (by kernel_rfl) rfl #[.int .i64 6, .int .i64 a, .int .i64 b] rfl rfl (by (try simp only [List.map_toArray, List.map_cons, List.map_nil]); first | done | rfl | (simp only [List.length_drop, List.length_take]; rfl)) ?_; (with_reducible refine (do_calls 6 a b p true _ B1).mono ?_); rintro e w' ⟨rfl, ⟨nd, rfl⟩⟩; refine ⟨_, rfl, ?_⟩)
          | ((with_reducible refine gate_calleeT (t := 29) (d := (some 33)) rfl rfl ?_); refine goesT_ (some 33) rfl rfl Try.func12 (by kernel_rfl) rfl #[.int .i64 6, .int .i64 b, .int .i64 a] rfl rfl (by (try simp only [List.map_toArray, List.map_cons, List.map_nil]); first | done | rfl | (simp only [List.length_drop, List.length_take]; rfl)) ?_; (with_reducible refine (do_calls 6 b a p true _ B2).mono ?_); rintro e w' ⟨rfl, ⟨nd, rfl⟩⟩; refine ⟨_, rfl, ?_⟩)
          | (try (refine gate_guard (by rfl) ?_; dsimp only)); ((with_reducible refine gate_calleeT (t := 38) (d := (some 42)) rfl rfl ?_); refine goesT_ (some 42) rfl rfl Try.func12 (by kernel_rfl) rfl #[.int .i64 6, .int .i64 a, .int .i64 b] rfl rfl (by (try simp only [List.map_toArray, List.map_cons, List.map_nil]); first | done | rfl | (simp only [List.length_drop, List.length_take]; rfl)) ?_; (with_reducible refine (do_calls 6 a b p true _ B1).mono ?_); rintro e w' ⟨rfl, ⟨nd, rfl⟩⟩; refine ⟨_, rfl, ?_⟩)
          | (try (refine gate_guard (by rfl) ?_; dsimp only)); ((with_reducible refine gate_calleeT (t := 36) (d := (some 44)) rfl rfl ?_); refine goesT_ (some 44) rfl rfl Try.func12 (by kernel_rfl) rfl #[.int .i64 6, .int .i64 p, .int .i64 c] rfl rfl (by (try simp only [List.map_toArray, List.map_cons, List.map_nil]); first | done | rfl | (simp only [List.length_drop, List.length_take]; rfl)) ?_; (with_reducible refine (do_calls 6 p c q true _ B3).mono ?_); rintro e w' ⟨rfl, ⟨nd, rfl⟩⟩; refine ⟨_, rfl, ?_⟩)
          | (try (refine gate_guard (by rfl) ?_; dsimp only)); ((with_reducible refine gate_calleeT (t := 48) (d := (some 52)) rfl rfl ?_); refine goesT_ (some 52) rfl rfl Try.func12 (by kernel_rfl) rfl #[.int .i64 6, .int .i64 b, .int .i64 c] rfl rfl (by (try simp only [List.map_toArray, List.map_cons, List.map_nil]); first | done | rfl | (simp only [List.length_drop, List.length_take]; rfl)) ?_; (with_reducible refine (do_calls 6 b c t true _ B4).mono ?_); rintro e w' ⟨rfl, ⟨nd, rfl⟩⟩; refine ⟨_, rfl, ?_⟩)
          | (try (refine gate_guard (by rfl) ?_; dsimp only)); ((with_reducible refine gate_calleeT (t := 45) (d := (some 53)) rfl rfl ?_); refine goesT_ (some 53) rfl rfl Try.func12 (by kernel_rfl) rfl #[.int .i64 6, .int .i64 a, .int .i64 t] rfl rfl (by (try simp only [List.map_toArray, List.map_cons, List.map_nil]); first | done | rfl | (simp only [List.length_drop, List.length_take]; rfl)) ?_; (with_reducible refine (do_calls 6 a t q true _ B5).mono ?_); rintro e w' ⟨rfl, ⟨nd, rfl⟩⟩; refine ⟨_, rfl, ?_⟩))
        go_roundw
        case rel => exact ⟨3, by omega, by omega, rfl, ⟨CB.out⟩, ⟨by repeat (first | (with_reducible first | exact Below.refl _ _ | exact HB.out | apply below_alloc | apply pw_below_drewN | apply below_drew1) | exact Below.refl _ _ | exact HB.out)⟩⟩
        case measure => simp [intOf]
      · obtain ⟨p, q, t, h1, h2, h3, h4, h5⟩ := HO.out 7 (by omega)
        have B1 := Aside0.mk h1
        have B2 := Aside0.mk h2
        have B3 := Aside0.mk h3
        have B4 := Aside0.mk h4
        have B5 := Aside0.mk h5
        clear h1 h2 h3 h4 h5
        have hc := blk_cell CB.out 3
        simp only [Array.getElem?_eq_getElem, List.getElem?_toArray, List.getElem?_cons_zero, List.getElem?_cons_succ] at hc
        go_wp2_with (first
          | ((with_reducible refine gate_calleeT (t := 24) (d := (some 28)) rfl rfl ?_); refine goesT_ (some 28) rfl rfl Try.func12 (by kernel_rfl) rfl #[.int .i64 7, .int .i64 a, .int .i64 b] rfl rfl (by (try simp only [List.map_toArray, List.map_cons, List.map_nil]); first | done | rfl | (simp only [List.length_drop, List.length_take]; rfl)) ?_; (with_reducible refine (do_calls 7 a b p true _ B1).mono ?_); rintro e w' ⟨rfl, ⟨nd, rfl⟩⟩; refine ⟨_, rfl, ?_⟩)
          | ((with_reducible refine gate_calleeT (t := 29) (d := (some 33)) rfl rfl ?_); refine goesT_ (some 33) rfl rfl Try.func12 (by kernel_rfl) rfl #[.int .i64 7, .int .i64 b, .int .i64 a] rfl rfl (by (try simp only [List.map_toArray, List.map_cons, List.map_nil]); first | done | rfl | (simp only [List.length_drop, List.length_take]; rfl)) ?_; (with_reducible refine (do_calls 7 b a p true _ B2).mono ?_); rintro e w' ⟨rfl, ⟨nd, rfl⟩⟩; refine ⟨_, rfl, ?_⟩)
          | (try (refine gate_guard (by rfl) ?_; dsimp only)); ((with_reducible refine gate_calleeT (t := 38) (d := (some 42)) rfl rfl ?_); refine goesT_ (some 42) rfl rfl Try.func12 (by kernel_rfl) rfl #[.int .i64 7, .int .i64 a, .int .i64 b] rfl rfl (by (try simp only [List.map_toArray, List.map_cons, List.map_nil]); first | done | rfl | (simp only [List.length_drop, List.length_take]; rfl)) ?_; (with_reducible refine (do_calls 7 a b p true _ B1).mono ?_); rintro e w' ⟨rfl, ⟨nd, rfl⟩⟩; refine ⟨_, rfl, ?_⟩)
          | (try (refine gate_guard (by rfl) ?_; dsimp only)); ((with_reducible refine gate_calleeT (t := 36) (d := (some 44)) rfl rfl ?_); refine goesT_ (some 44) rfl rfl Try.func12 (by kernel_rfl) rfl #[.int .i64 7, .int .i64 p, .int .i64 c] rfl rfl (by (try simp only [List.map_toArray, List.map_cons, List.map_nil]); first | done | rfl | (simp only [List.length_drop, List.length_take]; rfl)) ?_; (with_reducible refine (do_calls 7 p c q true _ B3).mono ?_); rintro e w' ⟨rfl, ⟨nd, rfl⟩⟩; refine ⟨_, rfl, ?_⟩)
          | (try (refine gate_guard (by rfl) ?_; dsimp only)); ((with_reducible refine gate_calleeT (t := 48) (d := (some 52)) rfl rfl ?_); refine goesT_ (some 52) rfl rfl Try.func12 (by kernel_rfl) rfl #[.int .i64 7, .int .i64 b, .int .i64 c] rfl rfl (by (try simp only [List.map_toArray, List.map_cons, List.map_nil]); first | done | rfl | (simp only [List.length_drop, List.length_take]; rfl)) ?_; (with_reducible refine (do_calls 7 b c t true _ B4).mono ?_); rintro e w' ⟨rfl, ⟨nd, rfl⟩⟩; refine ⟨_, rfl, ?_⟩)
          | (try (refine gate_guard (by rfl) ?_; dsimp only)); ((with_reducible refine gate_calleeT (t := 45) (d := (some 53)) rfl rfl ?_); refine goesT_ (some 53) rfl rfl Try.func12 (by kernel_rfl) rfl #[.int .i64 7, .int .i64 a, .int .i64 t] rfl rfl (by (try simp only [List.map_toArray, List.map_cons, List.map_nil]); first | done | rfl | (simp only [List.length_drop, List.length_take]; rfl)) ?_; (with_reducible refine (do_calls 7 a t q true _ B5).mono ?_); rintro e w' ⟨rfl, ⟨nd, rfl⟩⟩; refine ⟨_, rfl, ?_⟩))
        go_roundw
        case rel => exact ⟨4, by omega, by omega, rfl, ⟨CB.out⟩, ⟨by repeat (first | (with_reducible first | exact Below.refl _ _ | exact HB.out | apply below_alloc | apply pw_below_drewN | apply below_drew1) | exact Below.refl _ _ | exact HB.out)⟩⟩
        case measure => simp [intOf]
      · obtain ⟨p, q, t, h1, h2, h3, h4, h5⟩ := HO.out 8 (by omega)
        have B1 := Aside0.mk h1
        have B2 := Aside0.mk h2
        have B3 := Aside0.mk h3
        have B4 := Aside0.mk h4
        have B5 := Aside0.mk h5
        clear h1 h2 h3 h4 h5
        have hc := blk_cell CB.out 4
        simp only [Array.getElem?_eq_getElem, List.getElem?_toArray, List.getElem?_cons_zero, List.getElem?_cons_succ] at hc
        go_wp2_with (first
          | ((with_reducible refine gate_calleeT (t := 24) (d := (some 28)) rfl rfl ?_); refine goesT_ (some 28) rfl rfl Try.func12 (by kernel_rfl) rfl #[.int .i64 8, .int .i64 a, .int .i64 b] rfl rfl (by (try simp only [List.map_toArray, List.map_cons, List.map_nil]); first | done | rfl | (simp only [List.length_drop, List.length_take]; rfl)) ?_; (with_reducible refine (do_calls 8 a b p true _ B1).mono ?_); rintro e w' ⟨rfl, ⟨nd, rfl⟩⟩; refine ⟨_, rfl, ?_⟩)
          | ((with_reducible refine gate_calleeT (t := 29) (d := (some 33)) rfl rfl ?_); refine goesT_ (some 33) rfl rfl Try.func12 (by kernel_rfl) rfl #[.int .i64 8, .int .i64 b, .int .i64 a] rfl rfl (by (try simp only [List.map_toArray, List.map_cons, List.map_nil]); first | done | rfl | (simp only [List.length_drop, List.length_take]; rfl)) ?_; (with_reducible refine (do_calls 8 b a p true _ B2).mono ?_); rintro e w' ⟨rfl, ⟨nd, rfl⟩⟩; refine ⟨_, rfl, ?_⟩)
          | (try (refine gate_guard (by rfl) ?_; dsimp only)); ((with_reducible refine gate_calleeT (t := 38) (d := (some 42)) rfl rfl ?_); refine goesT_ (some 42) rfl rfl Try.func12 (by kernel_rfl) rfl #[.int .i64 8, .int .i64 a, .int .i64 b] rfl rfl (by (try simp only [List.map_toArray, List.map_cons, List.map_nil]); first | done | rfl | (simp only [List.length_drop, List.length_take]; rfl)) ?_; (with_reducible refine (do_calls 8 a b p true _ B1).mono ?_); rintro e w' ⟨rfl, ⟨nd, rfl⟩⟩; refine ⟨_, rfl, ?_⟩)
          | (try (refine gate_guard (by rfl) ?_; dsimp only)); ((with_reducible refine gate_calleeT (t := 36) (d := (some 44)) rfl rfl ?_); refine goesT_ (some 44) rfl rfl Try.func12 (by kernel_rfl) rfl #[.int .i64 8, .int .i64 p, .int .i64 c] rfl rfl (by (try simp only [List.map_toArray, List.map_cons, List.map_nil]); first | done | rfl | (simp only [List.length_drop, List.length_take]; rfl)) ?_; (with_reducible refine (do_calls 8 p c q true _ B3).mono ?_); rintro e w' ⟨rfl, ⟨nd, rfl⟩⟩; refine ⟨_, rfl, ?_⟩)
          | (try (refine gate_guard (by rfl) ?_; dsimp only)); ((with_reducible refine gate_calleeT (t := 48) (d := (some 52)) rfl rfl ?_); refine goesT_ (some 52) rfl rfl Try.func12 (by kernel_rfl) rfl #[.int .i64 8, .int .i64 b, .int .i64 c] rfl rfl (by (try simp only [List.map_toArray, List.map_cons, List.map_nil]); first | done | rfl | (simp only [List.length_drop, List.length_take]; rfl)) ?_; (with_reducible refine (do_calls 8 b c t true _ B4).mono ?_); rintro e w' ⟨rfl, ⟨nd, rfl⟩⟩; refine ⟨_, rfl, ?_⟩)
          | (try (refine gate_guard (by rfl) ?_; dsimp only)); ((with_reducible refine gate_calleeT (t := 45) (d := (some 53)) rfl rfl ?_); refine goesT_ (some 53) rfl rfl Try.func12 (by kernel_rfl) rfl #[.int .i64 8, .int .i64 a, .int .i64 t] rfl rfl (by (try simp only [List.map_toArray, List.map_cons, List.map_nil]); first | done | rfl | (simp only [List.length_drop, List.length_take]; rfl)) ?_; (with_reducible refine (do_calls 8 a t q true _ B5).mono ?_); rintro e w' ⟨rfl, ⟨nd, rfl⟩⟩; refine ⟨_, rfl, ?_⟩))
        go_roundw
        case rel => exact ⟨5, by omega, by omega, rfl, ⟨CB.out⟩, ⟨by repeat (first | (with_reducible first | exact Below.refl _ _ | exact HB.out | apply below_alloc | apply pw_below_drewN | apply below_drew1) | exact Below.refl _ _ | exact HB.out)⟩⟩
        case measure => simp [intOf]
    · have hx0 : 0 ≤ x := by omega
      have hx1 : x < 32 := by omega
      have hy0 : 0 ≤ y := by omega
      have hy1 : y < 32 := by omega
      go_wp2_with (first
        | ((with_reducible refine gate_calleeT (t := 65) (d := (some 68)) rfl rfl ?_); refine goesT_ (some 68) rfl rfl Try.func12 (by kernel_rfl) rfl #[.int .i64 1, .int .i64 b, .int .i64 c] rfl rfl (by (try simp only [List.map_toArray, List.map_cons, List.map_nil]); first | done | rfl | (simp only [List.length_drop, List.length_take]; rfl)) ?_; (with_reducible refine (do_calls 1 b c s1 true _ D1).mono ?_); rintro e w' ⟨rfl, ⟨nd, rfl⟩⟩; refine ⟨_, rfl, ?_⟩)
        | ((with_reducible refine gate_calleeT (t := 63) (d := (some 69)) rfl rfl ?_); refine goesT_ (some 69) rfl rfl Try.func12 (by kernel_rfl) rfl #[.int .i64 3, .int .i64 a, .int .i64 s1] rfl rfl (by (try simp only [List.map_toArray, List.map_cons, List.map_nil]); first | done | rfl | (simp only [List.length_drop, List.length_take]; rfl)) ?_; (with_reducible refine (do_calls 3 a s1 r1 true _ D2).mono ?_); rintro e w' ⟨rfl, ⟨nd, rfl⟩⟩; refine ⟨_, rfl, ?_⟩)
        | ((with_reducible refine gate_calleeT (t := 71) (d := (some 74)) rfl rfl ?_); refine goesT_ (some 74) rfl rfl Try.func12 (by kernel_rfl) rfl #[.int .i64 3, .int .i64 a, .int .i64 b] rfl rfl (by (try simp only [List.map_toArray, List.map_cons, List.map_nil]); first | done | rfl | (simp only [List.length_drop, List.length_take]; rfl)) ?_; (with_reducible refine (do_calls 3 a b p1 true _ D3).mono ?_); rintro e w' ⟨rfl, ⟨nd, rfl⟩⟩; refine ⟨_, rfl, ?_⟩)
        | ((with_reducible refine gate_calleeT (t := 75) (d := (some 78)) rfl rfl ?_); refine goesT_ (some 78) rfl rfl Try.func12 (by kernel_rfl) rfl #[.int .i64 3, .int .i64 a, .int .i64 c] rfl rfl (by (try simp only [List.map_toArray, List.map_cons, List.map_nil]); first | done | rfl | (simp only [List.length_drop, List.length_take]; rfl)) ?_; (with_reducible refine (do_calls 3 a c q1 true _ D4).mono ?_); rintro e w' ⟨rfl, ⟨nd, rfl⟩⟩; refine ⟨_, rfl, ?_⟩)
        | ((with_reducible refine gate_calleeT (t := 70) (d := (some 79)) rfl rfl ?_); refine goesT_ (some 79) rfl rfl Try.func12 (by kernel_rfl) rfl #[.int .i64 1, .int .i64 p1, .int .i64 q1] rfl rfl (by (try simp only [List.map_toArray, List.map_cons, List.map_nil]); first | done | rfl | (simp only [List.length_drop, List.length_take]; rfl)) ?_; (with_reducible refine (do_calls 1 p1 q1 r1 true _ D5).mono ?_); rintro e w' ⟨rfl, ⟨nd, rfl⟩⟩; refine ⟨_, rfl, ?_⟩)
        | (try (refine gate_guard (by rfl) ?_; dsimp only)); ((with_reducible refine gate_calleeT (t := 83) (d := (some 86)) rfl rfl ?_); refine goesT_ (some 86) rfl rfl Try.func12 (by kernel_rfl) rfl #[.int .i64 9, .int .i64 a, .int .i64 x] rfl rfl (by (try simp only [List.map_toArray, List.map_cons, List.map_nil]); first | done | rfl | (simp only [List.length_drop, List.length_take]; rfl)) ?_; (with_reducible refine (do_calls 9 a x u true _ E1).mono ?_); rintro e w' ⟨rfl, ⟨nd, rfl⟩⟩; refine ⟨_, rfl, ?_⟩)
        | (try (refine gate_guard (by rfl) ?_; dsimp only)); ((with_reducible refine gate_calleeT (t := 82) (d := (some 88)) rfl rfl ?_); refine goesT_ (some 88) rfl rfl Try.func12 (by kernel_rfl) rfl #[.int .i64 9, .int .i64 u, .int .i64 y] rfl rfl (by (try simp only [List.map_toArray, List.map_cons, List.map_nil]); first | done | rfl | (simp only [List.length_drop, List.length_take]; rfl)) ?_; (with_reducible refine (do_calls 9 u y v true _ E2).mono ?_); rintro e w' ⟨rfl, ⟨nd, rfl⟩⟩; refine ⟨_, rfl, ?_⟩)
        | (try (refine gate_guard (by rfl) ?_; dsimp only)); ((with_reducible refine gate_calleeT (t := 89) (d := (some 94)) rfl rfl ?_); refine goesT_ (some 94) rfl rfl Try.func12 (by kernel_rfl) rfl #[.int .i64 9, .int .i64 a, .int .i64 (x + y)] rfl rfl (by (try simp only [List.map_toArray, List.map_cons, List.map_nil]); first | done | rfl | (simp only [List.length_drop, List.length_take]; rfl)) ?_; (with_reducible refine (do_calls 9 a (x + y) v true _ E3).mono ?_); rintro e w' ⟨rfl, ⟨nd, rfl⟩⟩; refine ⟨_, rfl, ?_⟩)
        | (try (refine gate_guard (by rfl) ?_; dsimp only)); ((with_reducible refine gate_calleeT (t := 99) (d := (some 102)) rfl rfl ?_); refine goesT_ (some 102) rfl rfl Try.func12 (by kernel_rfl) rfl #[.int .i64 10, .int .i64 a, .int .i64 x] rfl rfl (by (try simp only [List.map_toArray, List.map_cons, List.map_nil]); first | done | rfl | (simp only [List.length_drop, List.length_take]; rfl)) ?_; (with_reducible refine (do_calls 10 a x u' true _ F1).mono ?_); rintro e w' ⟨rfl, ⟨nd, rfl⟩⟩; refine ⟨_, rfl, ?_⟩)
        | (try (refine gate_guard (by rfl) ?_; dsimp only)); ((with_reducible refine gate_calleeT (t := 98) (d := (some 104)) rfl rfl ?_); refine goesT_ (some 104) rfl rfl Try.func12 (by kernel_rfl) rfl #[.int .i64 10, .int .i64 u', .int .i64 y] rfl rfl (by (try simp only [List.map_toArray, List.map_cons, List.map_nil]); first | done | rfl | (simp only [List.length_drop, List.length_take]; rfl)) ?_; (with_reducible refine (do_calls 10 u' y v' true _ F2).mono ?_); rintro e w' ⟨rfl, ⟨nd, rfl⟩⟩; refine ⟨_, rfl, ?_⟩)
        | (try (refine gate_guard (by rfl) ?_; dsimp only)); ((with_reducible refine gate_calleeT (t := 105) (d := (some 110)) rfl rfl ?_); refine goesT_ (some 110) rfl rfl Try.func12 (by kernel_rfl) rfl #[.int .i64 10, .int .i64 a, .int .i64 (x + y)] rfl rfl (by (try simp only [List.map_toArray, List.map_cons, List.map_nil]); first | done | rfl | (simp only [List.length_drop, List.length_take]; rfl)) ?_; (with_reducible refine (do_calls 10 a (x + y) v' true _ F3).mono ?_); rintro e w' ⟨rfl, ⟨nd, rfl⟩⟩; refine ⟨_, rfl, ?_⟩)
        | (try (refine gate_guard (by rfl) ?_; dsimp only)); ((with_reducible refine gate_calleeT (t := 114) (d := (some 117)) rfl rfl ?_); refine goesT_ (some 117) rfl rfl Try.func12 (by kernel_rfl) rfl #[.int .i64 9, .int .i64 a, .int .i64 x] rfl rfl (by (try simp only [List.map_toArray, List.map_cons, List.map_nil]); first | done | rfl | (simp only [List.length_drop, List.length_take]; rfl)) ?_; (with_reducible refine (do_calls 9 a x u true _ E1).mono ?_); rintro e w' ⟨rfl, ⟨nd, rfl⟩⟩; refine ⟨_, rfl, ?_⟩)
        | (try (refine gate_guard (by rfl) ?_; dsimp only)); ((with_reducible refine gate_calleeT (t := 118) (d := (some 123)) rfl rfl ?_); refine goesT_ (some 123) rfl rfl Try.func12 (by kernel_rfl) rfl #[.int .i64 3, .int .i64 a, .int .i64 (wrap64 (2 ^ x.toNat))] rfl rfl (by (try simp only [List.map_toArray, List.map_cons, List.map_nil]); first | done | rfl | (simp only [List.length_drop, List.length_take]; rfl)) ?_; (with_reducible refine (do_calls 3 a (wrap64 (2 ^ x.toNat)) u true _ E4).mono ?_); rintro e w' ⟨rfl, ⟨nd, rfl⟩⟩; refine ⟨_, rfl, ?_⟩))
      go_ret
      exact ⟨rfl, by repeat (first | (with_reducible first | exact Below.refl _ _ | exact HB.out | apply below_alloc | apply pw_below_drewN | apply below_drew1) | exact HB.out)⟩

theorem u64_wrap (n : Int) : IntKind.u64.wrap n = n % 18446744073709551616 := by
  simp [IntKind.wrap, IntKind.bits, IntKind.signed]
theorem bm (n : Int) : wrap64 n = Int.bmod n (2 ^ 64) := by
  unfold wrap64; simp only [Int.bmod]; omega
theorem bm' (n : Int) : IntKind.i64.wrap n = Int.bmod n (2 ^ 64) := by
  have h := bm n
  unfold wrap64 at h
  rw [IntKind.wrap_i64]; exact h
theorem of_i64 (n : Int) : BitVec.ofInt 64 (IntKind.i64.wrap n) = BitVec.ofInt 64 n := by
  apply BitVec.eq_of_toNat_eq
  rw [BitVec.toNat_ofInt, BitVec.toNat_ofInt, IntKind.wrap_i64]; omega
theorem of_nat (x : BitVec 64) : BitVec.ofInt 64 (x.toNat : Int) = x := by
  rw [BitVec.ofInt_natCast, BitVec.ofNat_toNat, BitVec.setWidth_eq]
/-- an op of bits goes in any order and brackets if it does so on the bits -/
theorem bits_both (op : BinOp) (f : BitVec 64 → BitVec 64 → BitVec 64) (hf : ∀ a b, Go.bits op .i64 a b = IntKind.i64.wrap ((f (BitVec.ofInt 64 a) (BitVec.ofInt 64 b)).toNat : Int))
    (hc : ∀ x y, f x y = f y x) (ha : ∀ x y z, f (f x y) z = f x (f y z)) (o : Int) (hd : ∀ a b, word_Do.f 20 o a b = some (Go.bits op .i64 a b, true)) (a b c : Int) : Both o a b c := by
  refine ⟨Go.bits op .i64 a b, Go.bits op .i64 (Go.bits op .i64 a b) c, Go.bits op .i64 b c, hd _ _, ?_, hd _ _, hd _ _, ?_⟩
  · rw [hd, hf b a, hc, ← hf]
  · rw [hd, hf a, hf b c, of_i64, of_nat, ← ha, hf _ c, hf a b, of_i64, of_nat]
theorem all_both (a b c o : Int) (h : o = 1 ∨ o = 3 ∨ o = 6 ∨ o = 7 ∨ o = 8) : Both o a b c := by
  rcases h with rfl | rfl | rfl | rfl | rfl
  · refine ⟨wrap64 (a + b), wrap64 (wrap64 (a + b) + c), wrap64 (b + c), rfl, ?_, rfl, rfl, ?_⟩
    · rw [Int.add_comm a b]; rfl
    · show some (wrap64 (a + wrap64 (b + c)), true) = _
      rw [bm, bm, bm, bm, Int.add_bmod_bmod, Int.bmod_add_bmod, Int.add_assoc]
  · refine ⟨wrap64 (a * b), wrap64 (wrap64 (a * b) * c), wrap64 (b * c), rfl, ?_, rfl, rfl, ?_⟩
    · rw [Int.mul_comm a b]; rfl
    · show some (wrap64 (a * wrap64 (b * c)), true) = _
      rw [bm, bm, bm, bm, Int.mul_bmod_bmod, Int.bmod_mul_bmod, Int.mul_assoc]
  · exact bits_both .and (· &&& ·) (fun _ _ => rfl) BitVec.and_comm BitVec.and_assoc 6 (fun _ _ => rfl) a b c
  · exact bits_both .or (· ||| ·) (fun _ _ => rfl) BitVec.or_comm BitVec.or_assoc 7 (fun _ _ => rfl) a b c
  · exact bits_both .xor (· ^^^ ·) (fun _ _ => rfl) BitVec.xor_comm BitVec.xor_assoc 8 (fun _ _ => rfl) a b c
theorem shift_count (b : Int) (h0 : 0 ≤ b) (h1 : b < 64) : Go.bits .and .u64 (IntKind.u64.wrap b) 63 = b := by
  have h := u64_wrap b
  have : Go.bits .and .u64 (IntKind.u64.wrap b) 63 = IntKind.u64.wrap b % 64 := bits_mask .u64 64 (by decide) (fun n h0 h1 => by rw [u64_wrap]; omega) 6 (by decide) _ (by omega) (by omega)
  omega
theorem tell9 (a b : Int) (h0 : 0 ≤ b) (h1 : b < 64) : word_Do.f 20 9 a b = some (Int.bmod (a * 2 ^ b.toNat) (2 ^ 64), true) := by
  have h : word_Do.f 20 9 a b = if 0 ≤ Go.bits .and .u64 (IntKind.u64.wrap b) 63 then some (shl .i64 a (Go.bits .and .u64 (IntKind.u64.wrap b) 63), true) else none := rfl
  rw [h, shift_count b h0 h1, if_pos h0]
  unfold shl
  rw [bm', show min b.toNat IntKind.i64.bits = b.toNat by simp [IntKind.bits]; omega]
theorem tell10 (a b : Int) (h0 : 0 ≤ b) (h1 : b < 64) : word_Do.f 20 10 a b = some (a / 2 ^ b.toNat, true) := by
  have h : word_Do.f 20 10 a b = if 0 ≤ Go.bits .and .u64 (IntKind.u64.wrap b) 63 then some (shr .i64 a (Go.bits .and .u64 (IntKind.u64.wrap b) 63), true) else none := rfl
  rw [h, shift_count b h0 h1, if_pos h0]
  unfold shr
  rw [show min b.toNat IntKind.i64.bits = b.toNat by simp [IntKind.bits]; omega]

theorem walk (a b c n m : Int) (w : World) (ha : (Lit.int .i64 a).wf = true) (hb : (Lit.int .i64 b).wf = true) (hc : (Lit.int .i64 c).wf = true) (hn : (Lit.int .u8 n).wf = true) (hm : (Lit.int .u8 m).wf = true) :
    Calls Try.prog 6 #[.int .i64 a, .int .i64 b, .int .i64 c, .int .u8 n, .int .u8 m] w fun e w' => e = .returned (.bool true) ∧ Below w.heap.size w w' := by
  simp [Lit.wf, IntKind.min, IntKind.max, IntKind.signed, IntKind.bits] at hn hm
  have hp : ∀ x y : Int, 0 ≤ x → 0 ≤ y → (2 : Int) ^ (x + y).toNat = 2 ^ x.toNat * 2 ^ y.toNat := fun x y h0 h1 => by
    rw [show (x + y).toNat = x.toNat + y.toNat by omega, Int.pow_add]
  refine laws_walk a b c n m w (by omega) (by omega) (by omega) (by omega) (n % 32) (m % 32) rfl rfl (wrap64 (b + c)) (wrap64 (a * wrap64 (b + c))) (wrap64 (a * b)) (wrap64 (a * c))
    (Int.bmod (a * 2 ^ (n % 32).toNat) (2 ^ 64)) (Int.bmod (a * 2 ^ (n % 32 + m % 32).toNat) (2 ^ 64)) (a / 2 ^ (n % 32).toNat) (a / 2 ^ (n % 32 + m % 32).toNat)
    ⟨rfl⟩ ⟨rfl⟩ ⟨rfl⟩ ⟨rfl⟩ ⟨?_⟩ ⟨tell9 _ _ (by omega) (by omega)⟩ ⟨?_⟩ ⟨tell9 _ _ (by omega) (by omega)⟩ ⟨?_⟩ ⟨tell10 _ _ (by omega) (by omega)⟩ ⟨?_⟩ ⟨tell10 _ _ (by omega) (by omega)⟩ ⟨fun o h => all_both a b c o h⟩
  · show some (wrap64 (wrap64 (a * b) + wrap64 (a * c)), true) = _
    rw [bm, bm (a * b), bm (a * c), bm, bm (b + c), Int.add_bmod_bmod, Int.bmod_add_bmod, Int.mul_bmod_bmod, Int.mul_add]
  · rw [tell9 _ _ (by omega) (by omega), Int.bmod_mul_bmod, hp _ _ (by omega) (by omega), Int.mul_assoc]
  · show some (wrap64 (a * wrap64 (2 ^ (n % 32).toNat)), true) = _
    rw [bm, bm, Int.mul_bmod_bmod]
  · rw [tell10 _ _ (by omega) (by omega), hp _ _ (by omega) (by omega), Int.ediv_ediv_of_nonneg (Int.le_of_lt (Int.pow_pos (by decide)))]

end Go.Proofs.Ytifonhhdfoefhaa.Laws
