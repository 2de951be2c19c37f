/- LexAny's closures: what a blank is; and gap, which goes on over blanks and remarks. -/
import Derived.Test.YtfljigegjhnidaaDoorLexSpec3
import Derived.Test.YtfljigegjhnidaaDoorLexNX
import Derived.Test.YtfljigegjhnidaaDoorMine
import Derived.Laws.EntriesVeiled
namespace Go.Proofs.YtfljigegjhnidaaDoor.B
open Go.RowKit Go.Proofs.YtfljigegjhnidaaDoor.Mine Go.Proofs.YtfljigegjhnidaaDoorW.PrintWords Go.Proofs.YtfljigegjhnidaaDoorW.PrintLast Go.Proofs.YtfljigegjhnidaaDoorW.PrintMore
set_option linter.unusedVariables false
set_option linter.unusedSimpArgs false

set_option maxHeartbeats 2000000 in
theorem isblank_calls (c : Int) (r : Bool) (w : World) (h : ((((c == 32) || (c == 9)) || (c == 10)) || (c == 13)) = r) :
    Calls Tryd.prog 11 #[.int .u8 c] w fun e w' => e = .returned (.bool r) ∧ Drawn0 w w' := by
  cases h1 : (c == 32) with
  | true =>
    obtain rfl : r = true := by rw [← h, h1]; rfl
    go_enter Tryd.func11, Tryd.ntmps11
    go_wp2
    go_ret
    exact ⟨rfl, Drawn0.refl _⟩
  | false =>
    cases h2 : (c == 9) with
    | true =>
      obtain rfl : r = true := by rw [← h, h1, h2]; rfl
      go_enter Tryd.func11, Tryd.ntmps11
      go_wp2
      go_ret
      exact ⟨rfl, Drawn0.refl _⟩
    | false =>
      cases h3 : (c == 10) with
      | true =>
        obtain rfl : r = true := by rw [← h, h1, h2, h3]; rfl
        go_enter Tryd.func11, Tryd.ntmps11
        go_wp2
        go_ret
        exact ⟨rfl, Drawn0.refl _⟩
      | false =>
        obtain rfl : (c == 13) = r := by rw [← h, h1, h2, h3]; rfl
        go_enter Tryd.func11, Tryd.ntmps11
        go_wp2
        go_ret
        exact ⟨rfl, Drawn0.refl _⟩

/-- The world as gap has it: how far it is, the text, the function. -/
structure GX (w0 w W : World) (ba bs bf : Nat) (s : ByteArray) (i : Int) : Prop where
  ka : W.heap[ba]? = some (.cells #[.int .i64 i] 3 (0, 0))
  ks : W.heap[bs]? = some (.cells #[.string s] 9 (0, 0))
  kf : W.heap[bf]? = some (.cells #[.func (.func 11) #[] #[]] 31 (0, 0))
  kp : KeepBut w W ba none
  bl : Below w0.heap.size w0 W
section
variable {w0 w W W' : World} {ba bs bf : Nat} {s : ByteArray} {i : Int}
theorem GX.drawn (h : GX w0 w W ba bs bf s i) (hd : Drawn0 W W') : GX w0 w W' ba bs bf s i := by
  obtain ⟨n, rfl⟩ := hd
  exact ⟨h.ka, h.ks, h.kf, h.kp, pw_below_drewN h.bl n⟩
theorem GX.drewN (h : GX w0 w W ba bs bf s i) (m : Nat) : GX w0 w (W.drewN m) ba bs bf s i := ⟨h.ka, h.ks, h.kf, h.kp, pw_below_drewN h.bl m⟩
theorem GX.drew (h : GX w0 w W ba bs bf s i) : GX w0 w W.drew ba bs bf s i := ⟨h.ka, h.ks, h.kf, h.kp, below_drew1 h.bl⟩
theorem GX.put (h : GX w0 w W ba bs bf s i) (hn : w0.heap.size ≤ ba) (hs : bs ≠ ba) (hf : bf ≠ ba) (j : Int) : GX w0 w (W.setCell ⟨ba, 0, none⟩ (.int .i64 j)) ba bs bf s j :=
  ⟨blk_set h.ka 0 _, blk_far h.ks hs _, blk_far h.kf hf _, h.kp.set_ 0 _, below_set h.bl hn⟩
end
section
variable {P : Program} {ops : Array Oper} {Q : Exit → Act → World → Prop}
/-- A call of a function value that captures nothing, in a region that draws its order. -/
theorem goesR_ (t : Tmp) {oi : Oper} {N : Option Tmp} {a : Act} {w : World} {K : Act → World → Prop} {f : FuncId} {fn : Func} {xs : Array Operand} {ts : Array TypeId} (hf : P.funcs[f]? = some fn) (hname : (fn.name == "runtime.NumGoroutine") = false) (hb : fn.body.isSome = true) (args : Array Value)
    (hw : Region.wanted oi (yielded ops a.tmps) = true) (hN : oi.dst = N) (hop : oi.op = .call { callee := .value (.tmp t), args := xs, argTypes := ts }) (hv : a.eval (.tmp t) = .func (.func f) #[] #[]) (hargs : xs.map a.eval = args)
    (h : Calls P f args w fun e w' => ∃ v, e = .returned v ∧ K (a.put N v) w') : if Region.wanted oi (yielded ops a.tmps) = true then Oper.wp P oi a w K Q else K (a.put N undef) w := by
  refine call_ f args hw hN ?_ h
  have he := enters_ hf hname hb args w
  unfold execOp
  simp [hop, resolve, Deferred.ofValue, invoke, hv, hargs, he]
end
theorem lineLen_step {s : ByteArray} {j : Nat} (hj : j < s.size) : (bt s j = 10 → lineLen ((By s).drop j) = 0) ∧ (¬ bt s j = 10 → lineLen ((By s).drop j) = lineLen ((By s).drop (j + 1)) + 1) := by
  have hl : j < (By s).length := by rw [by_len]; exact hj
  have e : (By s).drop j = (By s)[j] :: (By s).drop (j + 1) := List.drop_eq_getElem_cons hl
  rw [bt_get s j hl, e]
  unfold lineLen
  constructor
  · intro h; rw [if_pos ((byte10 _).mp h)]
  · intro h; rw [if_neg (fun e => h ((byte10 _).mpr e))]; cases List.drop (j + 1) (By s) <;> rfl
theorem rem_bt {s : ByteArray} {j : Nat} : remB ((By s).drop j) = true ↔ (j + 1 < s.size ∧ bt s j = 47 ∧ bt s ((j + 1 : Nat) : Int) = 47) := by
  constructor
  · intro h
    obtain ⟨t, ht⟩ := rem_shape h
    obtain ⟨h1, h2⟩ := ws_bt s j 47 (47 :: t) ht
    have ht2 : (By s).drop (j + 1) = 47 :: t := by rw [← List.tail_drop, ht]; rfl
    obtain ⟨h3, h4⟩ := ws_bt s (j + 1) 47 t ht2
    exact ⟨h4, h1, h3⟩
  · rintro ⟨h1, h2, h3⟩
    have hl : j < (By s).length := by rw [by_len]; omega
    have hl2 : j + 1 < (By s).length := by rw [by_len]; omega
    rw [bt_get s j hl] at h2
    rw [bt_get s (j + 1) hl2] at h3
    rw [List.drop_eq_getElem_cons hl, List.drop_eq_getElem_cons hl2, (b32 _ 47 (by decide)).mp h2, (b32 _ 47 (by decide)).mp h3]
    rfl
theorem blank_stop {r : List UInt8} {c : Nat} (h : Blank r c) {x : UInt8} {t : List UInt8} (hx : r = x :: t) (hw : wsB x = false) (hr : ¬ remB r = true) : c = 0 := by
  cases h with
  | stop _ h h2 => rfl
  | ws y r b h hb => injection hx with h1 _; rw [h1, hw] at h; cases h
  | rem _ b h hb => exact absurd h hr
theorem blank_rem {r : List UInt8} {c : Nat} (h : Blank r c) {x : UInt8} {t : List UInt8} (hx : r = x :: t) (hw : wsB x = false) (hr : remB r = true) : ∃ b, Blank (r.drop (lineLen r)) b ∧ c = lineLen r + b := by
  cases h with
  | stop _ h h2 => rw [hr] at h2; cases h2
  | ws y r b h hb => injection hx with h1 _; rw [h1, hw] at h; cases h
  | rem _ b h hb => exact ⟨b, hb, rfl⟩
set_option maxHeartbeats 8000000 in
set_option maxRecDepth 100000 in
theorem gap_calls (w0 w : World) (ba bs bf : Nat) (s : ByteArray) (hsz : s.size ≤ 60000) (hn : w0.heap.size ≤ ba) (hsa : bs ≠ ba) (hfa : bf ≠ ba) (i b : Nat) (hi : i ≤ s.size) (hb : Blank ((By s).drop i) b) (h : GX w0 w w ba bs bf s i) :
    Calls Tryd.prog 12 #[.pointer (some ⟨ba, 0, none⟩), .pointer (some ⟨bs, 0, none⟩), .pointer (some ⟨bf, 0, none⟩)] w fun e w' => e = .returned (.tuple #[]) ∧ GX w0 w w' ba bs bf s ((i + b : Nat) : Int) := by
  have HX0 := Aside0.mk h
  have HB0 := Aside0.mk hb
  clear h hb
  have hsa' := hsa.symm
  have hfa' := hfa.symm
  go_enter Tryd.func12, Tryd.ntmps12
  go_wp2
  go_loopg [] (s.size + 2) (fun kq w' => ∃ (j c : Nat), Aside0 (Blank ((By s).drop j) c) ∧ Aside0 (j + c = i + b ∧ j ≤ s.size ∧ s.size + 2 ≤ kq + j) ∧ Aside0 (GX w0 w w' ba bs bf s (j : Int)))
  case atStart => exact ⟨i, b, HB0, ⟨rfl, hi, by omega⟩, HX0⟩
  case round =>
    clear HX0 HB0
    obtain ⟨j, c, HB1, HM, HX1⟩ := hrel
    have HX := HX1.out; clear HX1
    obtain ⟨J, hJ⟩ : ∃ J : Int, (j : Int) = J := ⟨_, rfl⟩
    rw [hJ] at HX
    have HJ := Aside0.mk hJ; clear hJ
    have ca := (blk_cell HX.ka 0).trans (show _ = some (Value.int .i64 J) from rfl); have cs := (blk_cell HX.ks 0).trans (show _ = some (Value.string s) from rfl); have cf := (blk_cell HX.kf 0).trans (show _ = some (Value.func (.func 11) #[] #[]) from rfl); have fa := blk_frozen HX.ka 0
    cases gk with
    | zero => have := HM.out; omega
    | succ k1 =>
      by_cases hj : j < s.size
      · have p1 := eq_true (show (0 : Int) ≤ J by have := HJ.out; omega); have q1 := eq_true (show J < (s.size : Int) by have := HJ.out; omega)
        have p1d : decide (0 ≤ J) = true := decide_eq_true (of_eq_true p1)
        have q1d : decide (J < (s.size : Int)) = true := decide_eq_true (of_eq_true q1)
        have hx := bt_at s J
        obtain ⟨x, t, hxt⟩ : ∃ x t, (By s).drop j = x :: t := by
          cases hd : (By s).drop j with
          | nil => have := congrArg List.length hd; rw [List.length_drop, by_len] at this; simp at this; omega
          | cons x t => exact ⟨x, t, rfl⟩
        obtain ⟨hbt, _⟩ := ws_bt s j x t hxt
        rw [HJ.out] at hbt
        have HWS := Aside0.mk (show ((((bt s J == 32) || (bt s J == 9)) || (bt s J == 10)) || (bt s J == 13)) = wsB x by
          rw [hbt]
          have hh : ∀ n : Nat, n < 256 → (((x.toNat : Int) == (n : Int)) = (x == UInt8.ofNat n)) := fun n hn => by rw [Bool.eq_iff_iff, beq_iff_eq, beq_iff_eq]; exact b32 x n hn
          rw [show (32 : Int) = ((32 : Nat) : Int) from rfl, show (9 : Int) = ((9 : Nat) : Int) from rfl, show (10 : Int) = ((10 : Nat) : Int) from rfl, show (13 : Int) = ((13 : Nat) : Int) from rfl, hh 32 (by decide), hh 9 (by decide), hh 10 (by decide), hh 13 (by decide)]
          rfl)
        have HBT := Aside0.mk hbt; clear hbt
        have HXT := Aside0.mk hxt; clear hxt
        go_wp2
        refine wp_gen (fun W_ => GX w0 w W_ ba bs bf s J) HX (fun w10 HX => ?_)
        clear ca cs cf fa
        refine start_ (n := 5) (S := fun w' => w'.cell? ⟨ba, 0, none⟩ = some (.int .i64 J) ∧ w'.cell? ⟨bs, 0, none⟩ = some (.string s) ∧ w'.cell? ⟨bf, 0, none⟩ = some (.func (.func 11) #[] #[])) (ds := []) #[false, false, false, false, false] (by kernel_rfl) rfl rfl ⟨(blk_cell HX.ka 0).trans rfl, (blk_cell HX.ks 0).trans rfl, (blk_cell HX.kf 0).trans rfl⟩ (fun hHeld => ?_)
        replace HX := HX.drew
        generalize w10.drew = w11 at HX hHeld ⊢
        refine take_ (i := 0) (N := some 7) (v := ?_) (a' := ?_) #[true, false, false, false, false] rfl rfl (by kernel_rfl) (fun _ _ _ h => h) (Or.inl ⟨by rfl, ?_⟩) hHeld ?_ ?_
        rotate_left
        · rintro w' ⟨s0, s1, s2⟩
          go_simp
          with_reducible rfl
        rotate_left
        · simp only [Act.put, List.setIfInBounds_toArray, List.set_cons_zero, List.set_cons_succ, i64_w, i32_w]
          rfl
        refine take_ (i := 1) (N := some 8) (v := ?_) (a' := ?_) #[true, true, false, false, false] rfl rfl (by kernel_rfl) (fun _ _ _ h => h) (Or.inl ⟨by rfl, ?_⟩) hHeld ?_ ?_
        rotate_left
        · rintro w' ⟨s0, s1, s2⟩
          go_simp
          with_reducible rfl
        rotate_left
        · simp only [Act.put, List.setIfInBounds_toArray, List.set_cons_zero, List.set_cons_succ, i64_w, i32_w]
          rfl
        refine take_ (i := 2) (N := some 9) (v := ?_) (a' := ?_) #[true, true, true, false, false] rfl rfl (by kernel_rfl) (fun _ _ _ h => h) (Or.inl ⟨by rfl, ?_⟩) hHeld ?_ ?_
        rotate_left
        · rintro w' ⟨s0, s1, s2⟩
          go_simp
          with_reducible rfl
        rotate_left
        · simp only [Act.put, List.setIfInBounds_toArray, List.set_cons_zero, List.set_cons_succ, i64_w, i32_w]
          rfl
        refine pure_ (i := 3) (N := some 10) (v := ?_) (a' := ?_) #[true, true, true, true, false] rfl rfl (by kernel_rfl) (fun _ _ _ h => h) (Or.inl ⟨by rfl, ?_⟩) ?_ ?_
        rotate_left
        · intro w'
          go_simp
          with_reducible rfl
        rotate_left
        · simp only [Act.put, List.setIfInBounds_toArray, List.set_cons_zero, List.set_cons_succ, i64_w, i32_w]
          rfl
        refine one_ (i := 4) (N := some 11) #[true, true, true, true, true] rfl rfl (by kernel_rfl) (by decide) (fun K hK => ?_)
        refine goesR_ 7 Tryd.func11 (by kernel_rfl) rfl #[.int .u8 (bt s J)] (by rfl) rfl rfl rfl (by (try simp only [List.map_toArray, List.map_cons, List.map_nil]); first | done | rfl | (simp only [List.length_drop, List.length_take]; rfl)) ?_
        with_reducible refine (isblank_calls (bt s J) (wsB x) _ HWS.out).mono ?_
        rintro e w12 ⟨rfl, hd⟩
        refine ⟨_, rfl, ?_⟩
        replace HX := HX.drawn hd; clear hd
        refine hK.out _ _ ⟨(blk_cell HX.ka 0).trans rfl, (blk_cell HX.ks 0).trans rfl, (blk_cell HX.kf 0).trans rfl⟩ (fun hHeld => ?_)
        clear hK K
        refine norm_ (a' := ?_) ?_ ?_
        rotate_left
        · show Act.put _ (some 11) _ = _
          simp only [Act.put, List.setIfInBounds_toArray, List.set_cons_zero, List.set_cons_succ, i64_w, i32_w]
          rfl
        refine done_ (by kernel_rfl) ?_
        clear hHeld
        have ca := (blk_cell HX.ka 0).trans (show _ = some (Value.int .i64 J) from rfl); have cs := (blk_cell HX.ks 0).trans (show _ = some (Value.string s) from rfl); have cf := (blk_cell HX.kf 0).trans (show _ = some (Value.func (.func 11) #[] #[]) from rfl); have fa := blk_frozen HX.ka 0
        have hw1 : wrap64 (J + 1) = J + 1 := by have := HJ.out; unfold wrap64; omega
        cases hws : wsB x with
        | true =>
          go_wp2
          go_roundg k1
          case measure => omega
          case rel =>
            obtain ⟨b', hb', hc'⟩ : ∃ b', Blank ((By s).drop (j + 1)) b' ∧ c = b' + 1 := by
              have hB := HB1.out
              have hd1 : (By s).drop (j + 1) = t := by rw [← List.tail_drop, HXT.out]; rfl
              rw [HXT.out] at hB
              rw [hd1]
              cases hB with
              | stop _ h h2 => rw [h x t rfl] at hws; cases hws
              | ws _ _ b h hb => exact ⟨b, hb, rfl⟩
              | rem _ b h hb => obtain ⟨t', ht'⟩ := rem_shape h; injection ht' with h1 _; rw [h1] at hws; exact absurd hws (by decide)
            exact ⟨j + 1, b', ⟨hb'⟩, ⟨by have := HM.out; omega⟩, ⟨by rw [show ((j + 1 : Nat) : Int) = J + 1 by have := HJ.out; omega, ← hw1]; (with_reducible repeat (first | refine GX.drewN ?_ _ | refine GX.drew ?_)); exact HX.put hn hsa hfa _⟩⟩
        | false =>
          obtain ⟨M, hM⟩ : ∃ M : Int, wrap64 (J + 1) = M := ⟨_, rfl⟩
          have HM1 := Aside0.mk (show ((j + 1 : Nat) : Int) = M by rw [← hM, hw1]; have := HJ.out; omega)
          have hMw : IntKind.i64.wrap (J + 1) = M := (i64_w _).trans hM
          clear hw1
          by_cases cA : M < (s.size : Int)
          case neg =>
            have cA0 : decide (M < (s.size : Int)) = false := decide_eq_false cA
            have hc0 : c = 0 := blank_stop HB1.out HXT.out hws (fun h_ => cA (by have h1 := (rem_bt.mp h_).1; have h2 := HM1.out; omega))
            go_wp2
            first | go_end0 | ((try simp only [Exit.inBlock, Exit.then]); refine bodyPost_ret (results_none rfl _ _ _) rfl ?_)
            exact ⟨rfl, by have h1 := HM.out.1; have h2 := HJ.out; (first | rw [show ((i : Int) + (b : Int)) = J by omega] | rw [show ((i + b : Nat) : Int) = J by omega]); exact HX⟩
          have cA0 : decide (M < (s.size : Int)) = true := decide_eq_true cA
          have p2 := eq_true (show (0 : Int) ≤ M by have := HM1.out; omega); have q2 := eq_true cA; have hx2 := bt_at s M
          have p2d : decide (0 ≤ M) = true := decide_eq_true (of_eq_true p2)
          by_cases cB : bt s J = 47
          case neg =>
            have cB0 : (bt s J == 47) = false := beq_eq_false_iff_ne.mpr cB
            have hc0 : c = 0 := blank_stop HB1.out HXT.out hws (fun h_ => cB (by have h1 := (rem_bt.mp h_).2.1; rwa [HJ.out] at h1))
            go_wp2
            first | go_end0 | ((try simp only [Exit.inBlock, Exit.then]); refine bodyPost_ret (results_none rfl _ _ _) rfl ?_)
            exact ⟨rfl, by have h1 := HM.out.1; have h2 := HJ.out; (first | rw [show ((i : Int) + (b : Int)) = J by omega] | rw [show ((i + b : Nat) : Int) = J by omega]); exact HX⟩
          have cB0 : (bt s J == 47) = true := beq_iff_eq.mpr cB
          by_cases cC : bt s M = 47
          case neg =>
            have cC0 : (bt s M == 47) = false := beq_eq_false_iff_ne.mpr cC
            have hc0 : c = 0 := blank_stop HB1.out HXT.out hws (fun h_ => cC (by have h1 := (rem_bt.mp h_).2.2; rwa [HM1.out] at h1))
            go_wp2
            first | go_end0 | ((try simp only [Exit.inBlock, Exit.then]); refine bodyPost_ret (results_none rfl _ _ _) rfl ?_)
            exact ⟨rfl, by have h1 := HM.out.1; have h2 := HJ.out; (first | rw [show ((i : Int) + (b : Int)) = J by omega] | rw [show ((i + b : Nat) : Int) = J by omega]); exact HX⟩
          have cC0 : (bt s M == 47) = true := beq_iff_eq.mpr cC
          have hrem : remB ((By s).drop j) = true := rem_bt.mpr ⟨by have := HM1.out; omega, by rw [HJ.out]; exact cB, by rw [HM1.out]; exact cC⟩
          have HREM := Aside0.mk hrem; have H2L := Aside0.mk (rem_len hrem); clear hrem
          obtain ⟨b', hb', hc'⟩ := blank_rem HB1.out HXT.out hws HREM.out
          have HBB := Aside0.mk hb'; have HCC := Aside0.mk hc'; clear hb' hc'
          have HLL := Aside0.mk (lineLen_le ((By s).drop j))
          go_wp2
          go_loopg [] (s.size + 1) (fun kq w' => ∃ (m : Nat), Aside0 (j ≤ m ∧ m ≤ s.size ∧ m + lineLen ((By s).drop m) = j + lineLen ((By s).drop j) ∧ s.size + 1 ≤ kq + m) ∧ Aside0 (GX w0 w w' ba bs bf s (m : Int)))
          case atStart => exact ⟨j, ⟨by have := HM.out; omega⟩, ⟨by rw [HJ.out]; (with_reducible repeat (first | refine GX.drewN ?_ _ | refine GX.drew ?_)); exact HX⟩⟩
          case round =>
            clear HX ca cs cf fa hx hx2 p1 q1 p1d q1d p2 q2 p2d cA cB cC cA0 cB0 cC0 hM hMw
            obtain ⟨m, HQ, HX1⟩ := hrel
            have HX := HX1.out; clear HX1
            obtain ⟨J2, hJ2⟩ : ∃ J_ : Int, (m : Int) = J_ := ⟨_, rfl⟩
            rw [hJ2] at HX
            have HJ2 := Aside0.mk hJ2; clear hJ2
            have ca := (blk_cell HX.ka 0).trans (show _ = some (Value.int .i64 J2) from rfl); have cs := (blk_cell HX.ks 0).trans (show _ = some (Value.string s) from rfl); have fa := blk_frozen HX.ka 0
            cases gk with
            | zero => have := HQ.out; omega
            | succ k2 =>
              by_cases cm : m < s.size
              · have p3 := eq_true (show (0 : Int) ≤ J2 by have := HJ2.out; omega); have q3 := eq_true (show J2 < (s.size : Int) by have := HJ2.out; omega)
                have p3d : decide (0 ≤ J2) = true := decide_eq_true (of_eq_true p3)
                have q3d : decide (J2 < (s.size : Int)) = true := decide_eq_true (of_eq_true q3)
                have hx3 := bt_at s J2
                have hst := lineLen_step cm; rw [HJ2.out] at hst
                by_cases c10 : bt s J2 = 10
                · have c100 : (bt s J2 == 10) = true := beq_iff_eq.mpr c10
                  have c101 : (bt s J2 != 10) = false := bne_eq_false_iff_eq.mpr c10
                  have hz := hst.1 c10; clear hst c10
                  have HZ := Aside0.mk hz; clear hz
                  go_wp2
                  go_roundg k1
                  case measure => omega
                  case rel =>
                    have hm : m = j + lineLen ((By s).drop j) := by have h1 := HQ.out.2.2.1; rw [HZ.out] at h1; omega
                    refine ⟨m, b', ⟨by rw [hm, ← List.drop_drop]; exact HBB.out⟩, ⟨by have h1 := HM.out; have h2 := HCC.out; have h3 := H2L.out; have h4 := HQ.out.2.1; omega⟩, ⟨by rw [HJ2.out]; (with_reducible repeat (first | refine GX.drewN ?_ _ | refine GX.drew ?_)); exact HX⟩⟩
                · have c100 : (bt s J2 == 10) = false := beq_eq_false_iff_ne.mpr c10
                  have c101 : (bt s J2 != 10) = true := bne_iff_ne.mpr c10
                  have HST := Aside0.mk (hst.2 c10); clear hst c10
                  have hw2 : wrap64 (J2 + 1) = J2 + 1 := by have := HJ2.out; unfold wrap64; omega
                  go_wp2
                  go_roundg k2
                  case measure => omega
                  case rel =>
                    exact ⟨m + 1, ⟨by have h1 := HQ.out; have h2 := HST.out; omega⟩, ⟨by rw [show ((m + 1 : Nat) : Int) = J2 + 1 by have := HJ2.out; omega, ← hw2]; (with_reducible repeat (first | refine GX.drewN ?_ _ | refine GX.drew ?_)); exact HX.put hn hsa hfa _⟩⟩
              · have hj0 : decide (J2 < (s.size : Int)) = false := decide_eq_false (by have := HJ2.out; omega)
                have hz : lineLen ((By s).drop m) = 0 := by rw [List.drop_of_length_le (by rw [by_len]; omega)]; rfl
                have HZ := Aside0.mk hz; clear hz
                go_wp2
                go_roundg k1
                case measure => omega
                case rel =>
                  have hm : m = j + lineLen ((By s).drop j) := by have h1 := HQ.out.2.2.1; rw [HZ.out] at h1; omega
                  refine ⟨m, b', ⟨by rw [hm, ← List.drop_drop]; exact HBB.out⟩, ⟨by have h1 := HM.out; have h2 := HCC.out; have h3 := H2L.out; have h4 := HQ.out.2.1; omega⟩, ⟨by rw [HJ2.out]; (with_reducible repeat (first | refine GX.drewN ?_ _ | refine GX.drew ?_)); exact HX⟩⟩
      · have hj0 : decide (J < (s.size : Int)) = false := decide_eq_false (by have := HJ.out; omega)
        obtain rfl : c = 0 := by have := HB1.out.le; rw [List.length_drop, by_len] at this; omega
        go_wp2
        first | go_end0 | ((try simp only [Exit.inBlock, Exit.then]); refine bodyPost_ret (results_none rfl _ _ _) rfl ?_)
        exact ⟨rfl, by have h1 := HM.out.1; have h2 := HJ.out; (first | rw [show ((i : Int) + (b : Int)) = J by omega] | rw [show ((i + b : Nat) : Int) = J by omega]); exact HX⟩
end Go.Proofs.YtfljigegjhnidaaDoor.B
