/- Parsing: op. -/
import Derived.Test.YtenkganofobioaaDoorPaArgs
namespace Go.Proofs.YtenkganofobioaaDoor.B
open Go.RowKit Go.Proofs.YtenkganofobioaaDoor.Mine Go.Proofs.YtenkganofobioaaDoor.Sep Go.Proofs.YtenkganofobioaaDoorW.PrintWords Go.Proofs.YtenkganofobioaaDoorW.PrintLast Go.Proofs.YtenkganofobioaaDoorW.PrintMore
set_option linter.unusedVariables false
set_option linter.unusedSimpArgs false
set_option maxRecDepth 100000 in
theorem sign_calls (op : Int) (w : World) (hG : GL w) : Calls Tryd.prog 29 #[.int .i64 op] w fun e w' => e = .returned (.string (bs (signF op))) ∧ w' = w := by
  by_cases h0 : op < 0
  · have hs : signF op = [] := by unfold signF; rw [if_pos (.inl h0)]
    rw [hs]
    have c0 : decide (op < 0) = true := decide_eq_true h0
    clear hs h0
    go_enter Tryd.func29, Tryd.ntmps29
    go_wp2
    go_ret
    exact ⟨rfl, rfl⟩
  · by_cases h1 : 15 ≤ op
    · have hs : signF op = [] := by unfold signF; rw [if_pos (.inr h1)]
      rw [hs]
      have c0 : decide (op < 0) = false := decide_eq_false h0
      have c1 : decide (15 ≤ op) = true := decide_eq_true h1
      clear hs h0
      go_enter Tryd.func29, Tryd.ntmps29
      go_wp2
      go_ret
      exact ⟨rfl, rfl⟩
    · obtain ⟨n, rfl⟩ : ∃ n : Nat, op = (n : Int) := ⟨op.toNat, by omega⟩
      have hn : n < signList.length := by simp; omega
      have hs : signF (n : Int) = signList[n] := by unfold signF; rw [if_neg (by omega), Int.toNat_natCast, List.getD_eq_getElem?_getD, List.getElem?_eq_getElem hn]; rfl
      have hc := hG.signs n signList[n] (List.getElem?_eq_getElem hn)
      rw [← hs] at hc
      obtain ⟨x, hx⟩ : ∃ x, signF (n : Int) = x := ⟨_, rfl⟩
      rw [hx] at hc ⊢
      have c0 : decide ((n : Int) < 0) = false := decide_eq_false (by omega)
      have c1 : decide (15 ≤ (n : Int)) = false := decide_eq_false h1
      have hlt : (n : Int) < 15 := by omega
      have h00 : 0 ≤ (n : Int) := by omega
      clear hs hG hx hn
      go_enter Tryd.func29, Tryd.ntmps29
      go_wp2
      go_ret
      exact ⟨rfl, rfl⟩
theorem op_some {m : List UInt8} (h1 : m ≠ [62]) (h2 : m ≠ [62, 61]) {i : Nat} (h : (List.range 14).find? (fun (i : Nat) => signF ((i : Int) + 1) == m) = some i) : opOf m = ((i : Int) + 1, false) := by
  unfold opOf; rw [if_neg h1, if_neg h2, h]
theorem op_none {m : List UInt8} (h1 : m ≠ [62]) (h2 : m ≠ [62, 61]) (h : (List.range 14).find? (fun (i : Nat) => signF ((i : Int) + 1) == m) = none) : opOf m = (0, false) := by
  unfold opOf; rw [if_neg h1, if_neg h2, h]
theorem find_snocN (p : Nat → Bool) (q : Nat) (h : (List.range q).find? p = none) : (List.range (q + 1)).find? p = if p q = true then some q else none := by
  rw [List.range_succ, List.find?_append, h]
  simp only [List.find?_cons, List.find?_nil]
  cases p q <;> rfl
theorem find_range (p : Nat → Bool) {q : Nat} (hq : q < 14) (h : (List.range q).find? p = none) (hp : p q = true) : (List.range 14).find? p = some q := by
  have e : List.range 14 = List.range (q + 1) ++ (List.range 14).drop (q + 1) := (by decide : ∀ q : Nat, q < 14 → List.range 14 = List.range (q + 1) ++ (List.range 14).drop (q + 1)) q hq
  rw [e, List.find?_append, find_snocN p q h, if_pos hp]
  rfl
set_option maxRecDepth 100000 in
set_option maxHeartbeats 4000000 in
theorem op_calls (m : List UInt8) (w : World) (hG : GL w) : Calls Tryd.prog 97 #[.string (bs m)] w fun e w' => e = .returned (.tuple #[.int .i64 (opOf m).1, .bool (opOf m).2]) ∧ w' = w := by
  have e1 : ∀ l : List UInt8, (bs l).toList = l := fun l => by simp [bs]
  have e62 : (⟨#[62]⟩ : ByteArray).toList = [62] := e1 [62]
  have e6261 : (⟨#[62, 61]⟩ : ByteArray).toList = [62, 61] := e1 [62, 61]
  have HG := Aside0.mk hG
  clear hG
  by_cases h1 : m = [62]
  · subst h1
    rw [show opOf [62] = (13, true) from rfl]
    go_enter Tryd.func97, Tryd.ntmps97
    go_wp2
    exact bodyPost_ret (results_tmp2 rfl _ _ _) rfl ⟨rfl, rfl⟩
  have c1_ : (m == [62]) = false := beq_eq_false_iff_ne.2 h1
  by_cases h2 : m = [62, 61]
  · subst h2
    rw [show opOf [62, 61] = (14, true) from rfl]
    clear h1
    go_enter Tryd.func97, Tryd.ntmps97
    go_wp2
    exact bodyPost_ret (results_tmp2 rfl _ _ _) rfl ⟨rfl, rfl⟩
  have c2_ : (m == [62, 61]) = false := beq_eq_false_iff_ne.2 h2
  have HS := Aside0.mk (fun i h => op_some (i := i) h1 h2 h)
  have HNO := Aside0.mk (op_none h1 h2)
  obtain ⟨R, hR⟩ : ∃ R, R = opOf m := ⟨_, rfl⟩
  rw [← hR] at HS HNO ⊢
  clear hR h1 h2
  go_enter Tryd.func97, Tryd.ntmps97
  go_wp2
  go_loopg [4] 16 (fun kq v4 w' => ∃ (q : Nat), v4 = .int .i64 ((q : Int) + 1) ∧ Aside0 (q ≤ 14 ∧ 15 < kq + q) ∧ Aside0 ((List.range q).find? (fun (i : Nat) => signF ((i : Int) + 1) == m) = none) ∧ Aside0 (w' = w))
  case atStart => exact ⟨0, rfl, ⟨by omega, by omega⟩, ⟨rfl⟩, ⟨rfl⟩⟩
  case round =>
    obtain ⟨q, rfl, HQ, HN, HW⟩ := hrel
    obtain rfl := HW.out
    clear HW
    cases gk with
    | zero => have := HQ.out; omega
    | succ k1 =>
      obtain ⟨QI, hQI⟩ : ∃ z : Int, z = (q : Int) + 1 := ⟨_, rfl⟩
      have HQI := Aside0.mk hQI
      have HSG := Aside0.mk (fun w h => sign_calls QI w h)
      rw [← hQI]
      by_cases hq : q < 14
      · have c3_ : (QI ≤ 14) = True := eq_true (by omega)
        have c4_ : decide (QI ≤ 14) = true := decide_eq_true (by omega)
        have hw : wrap64 (QI + 1) = QI + 1 := w64 _ (by omega) (by omega)
        have HQ2 := Aside0.mk hq
        clear hQI hq
        obtain ⟨sg, hsg⟩ : ∃ sg, sg = signF QI := ⟨_, rfl⟩
        rw [← hsg] at HSG
        have HSGE := Aside0.mk hsg
        clear hsg
        cases hp : (sg == m) with
        | true =>
          have HR := Aside0.mk (HS.out q (find_range _ HQ2.out HN.out (by rw [← HQI.out, ← HSGE.out]; exact hp)))
          go_wp2_with (go_at_call 29; refine (HSG.out _ HG.out).mono ?_; rintro e w_ ⟨rfl, rfl⟩)
          exact bodyPost_ret (results_tmp2 rfl _ _ _) rfl ⟨by rw [HR.out, ← HQI.out]; rfl, rfl⟩
        | false =>
          have HF := Aside0.mk (find_snocN (fun (i : Nat) => signF ((i : Int) + 1) == m) q HN.out)
          have HP := Aside0.mk (show (signF ((q : Int) + 1) == m) = false from by rw [← HQI.out, ← HSGE.out]; exact hp)
          go_wp2_with (go_at_call 29; refine (HSG.out _ HG.out).mono ?_; rintro e w_ ⟨rfl, rfl⟩)
          go_roundg k1
          case measure => exact Nat.lt_succ_self _
          case rel => exact ⟨q + 1, by first | (rw [hw, HQI.out]; rfl) | (rw [HQI.out]; rfl), ⟨by have := HQ2.out; omega, by have := HQ.out; omega⟩, ⟨by rw [HF.out, HP.out]; rfl⟩, ⟨rfl⟩⟩
      · have hq14 : q = 14 := by have := HQ.out; omega
        subst hq14
        have c3_ : (QI ≤ 14) = False := eq_false (by omega)
        have c4_ : decide (QI ≤ 14) = false := decide_eq_false (by omega)
        have HR := Aside0.mk (HNO.out HN.out)
        clear hQI hq
        go_wp2
        exact bodyPost_ret (results_tmp2 rfl _ _ _) rfl ⟨by rw [HR.out]; rfl, rfl⟩
end Go.Proofs.YtenkganofobioaaDoor.B
