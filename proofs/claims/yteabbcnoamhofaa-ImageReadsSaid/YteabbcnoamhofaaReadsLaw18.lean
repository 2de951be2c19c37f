/- ImageReads: whatever bytes: the image that they are, just so, or none. -/
import Derived.Test.YteabbcnoamhofaaReadsW
import Derived.Test.YteabbcnoamhofaaOpenImg
namespace Go.Proofs.Yteabbcnoamhofaa.B
open Go.RowKit Go.Proofs.Yteabbcnoamhofaa.Mine Go.Proofs.YteabbcnoamhofaaW.PrintWords Go.Proofs.YteabbcnoamhofaaW.PrintLast Go.Proofs.YteabbcnoamhofaaW.PrintMore
set_option linter.unusedVariables false
set_option linter.unusedSimpArgs false

theorem same_r1 (C : List S26) (A : List S33) (st mem : Int) (hC : C.length ≤ 40000) : ∀ (m i K : Nat) (x : Int), i + m = C.length → image_Image_Right.l1 K x C (C.length : Int) (i : Int) C A st mem = some true →
    (∀ a ∈ C.drop i, rightB a.f0 a.f1 a.f2 a.f3 a.f4 a.f5 = true) ∧ ∀ k, m < k → palingslaw18_right.l1 k x C (C.length : Int) (i : Int) C A st mem = some true := by
  intro m
  induction m with
  | zero =>
    intro i K x hi h
    cases K with
    | zero => rw [image_Image_Right.l1] at h; cases h
    | succ K =>
      rw [image_Image_Right.l1, if_neg (by omega)] at h
      refine ⟨fun a ha => ?_, fun k hk => ?_⟩
      · rw [List.drop_of_length_le (by omega)] at ha; cases ha
      · obtain ⟨k, rfl⟩ : ∃ j, k = j + 1 := ⟨k - 1, by omega⟩
        rw [palingslaw18_right.l1, if_neg (by omega)]
        exact h
  | succ m ih =>
    intro i K x hi h
    cases K with
    | zero => rw [image_Image_Right.l1] at h; cases h
    | succ K =>
      have hil : i < C.length := by omega
      rw [image_Image_Right.l1, if_pos (by omega), if_pos (by omega), if_pos (by omega), code_Ins_Right.f, Option.bind_some, w64 ((i : Int) + 1) (by omega) (by omega), rd26_get hil] at h
      split at h
      · next hr =>
        have hgo : ∀ g, code_Ins_Goes.f C[i].f0 C[i].f1 C[i].f2 C[i].f3 C[i].f4 C[i].f5 = some g → (if g = true then (if C[i].f5 ≥ (C.length : Int) then some false else image_Image_Right.l1 K x C (C.length : Int) ((i : Int) + 1) C A st mem) else image_Image_Right.l1 K x C (C.length : Int) ((i : Int) + 1) C A st mem) = some true := fun g hg => by
          rw [hg, Option.bind_some] at h; exact h
        have key : ∀ g, code_Ins_Goes.f C[i].f0 C[i].f1 C[i].f2 C[i].f3 C[i].f4 C[i].f5 = some g → (g = true → ¬ C[i].f5 ≥ (C.length : Int)) ∧ image_Image_Right.l1 K x C (C.length : Int) ((i + 1 : Nat) : Int) C A st mem = some true := fun g hg => by
          have h1 := hgo g hg
          split at h1
          · split at h1
            · cases h1
            · next hn => exact ⟨fun _ => hn, by exact_mod_cast h1⟩
          · next hg0 => exact ⟨fun h => absurd h hg0, by exact_mod_cast h1⟩
        have fin : (∃ g, code_Ins_Goes.f C[i].f0 C[i].f1 C[i].f2 C[i].f3 C[i].f4 C[i].f5 = some g ∧ (g = true ↔ (C[i].f0 = 6 ∨ C[i].f0 = 7 ∨ C[i].f0 = 8))) := by
          unfold code_Ins_Goes.f
          split
          · next h6 => exact ⟨_, rfl, by simp [h6]⟩
          · next h6 =>
            split
            · next h7 => exact ⟨_, rfl, by simp [h7]⟩
            · next h7 => exact ⟨_, rfl, by simp [h6, h7]⟩
        obtain ⟨g, hg, hiff⟩ := fin
        obtain ⟨k1, k2⟩ := key g hg
        obtain ⟨k3, k4⟩ := ih (i + 1) K x (by omega) k2
        refine ⟨fun a ha => ?_, fun k hk => ?_⟩
        · rw [List.drop_eq_getElem_cons hil] at ha
          rcases List.mem_cons.mp ha with rfl | ha
          · exact hr
          · exact k3 a ha
        · obtain ⟨k, rfl⟩ : ∃ j, k = j + 1 := ⟨k - 1, by omega⟩
          have h5 := k4 k (by omega)
          have h5 : palingslaw18_right.l1 k x C (C.length : Int) ((i : Int) + 1) C A st mem = some true := by exact_mod_cast h5
          rw [palingslaw18_right.l1, if_pos (by omega), if_pos (by omega), if_pos (by omega), code_Ins_Right.f, w64 ((i : Int) + 1) (by omega) (by omega), rd26_get hil, Option.bind_some, hr, if_pos rfl]
          by_cases h6 : C[i].f0 = 6
          · rw [if_pos h6, if_neg (k1 (hiff.mpr (.inl h6)))]
            exact h5
          · rw [if_neg h6]
            by_cases h7 : C[i].f0 = 7
            · rw [if_pos h7, if_neg (k1 (hiff.mpr (.inr (.inl h7))))]
              exact h5
            · rw [if_neg h7]
              by_cases h8 : C[i].f0 = 8
              · rw [if_pos h8, if_neg (k1 (hiff.mpr (.inr (.inr h8))))]
                exact h5
              · rw [if_neg h8]
                exact h5
      · cases h
theorem same_r0 (C : List S26) (A : List S33) (st mem : Int) (hC : C.length ≤ 40000) (hA : A.length ≤ 40000) : ∀ (m i K : Nat) (x : Int), i + m = A.length → image_Image_Right.l0 K x A (A.length : Int) (i : Int) C A st mem = some true →
    (∀ a ∈ C, rightB a.f0 a.f1 a.f2 a.f3 a.f4 a.f5 = true) ∧ (∀ a ∈ A.drop i, 1 ≤ a.f1 ∧ a.f1 ≤ 4096 ∧ 0 ≤ a.f2 ∧ a.f2 ≤ 2) ∧ ∀ k, m + C.length + 1 < k → palingslaw18_right.l0 k x A (A.length : Int) (i : Int) C A st mem = some true := by
  intro m
  induction m with
  | zero =>
    intro i K x hi h
    cases K with
    | zero => rw [image_Image_Right.l0] at h; cases h
    | succ K =>
      rw [image_Image_Right.l0, if_neg (by omega)] at h
      obtain ⟨h1, h2⟩ := same_r1 C A st mem hC C.length 0 K x (by omega) h
      refine ⟨by simpa using h1, fun a ha => ?_, fun k hk => ?_⟩
      · rw [List.drop_of_length_le (by omega)] at ha; cases ha
      · obtain ⟨k, rfl⟩ : ∃ j, k = j + 1 := ⟨k - 1, by omega⟩
        rw [palingslaw18_right.l0, if_neg (by omega)]
        exact h2 k (by omega)
  | succ m ih =>
    intro i K x hi h
    cases K with
    | zero => rw [image_Image_Right.l0] at h; cases h
    | succ K =>
      have hil : i < A.length := by omega
      rw [image_Image_Right.l0, if_pos (by omega), if_pos (by omega), if_pos (by omega), w64 ((i : Int) + 1) (by omega) (by omega), rd33_get hil] at h
      split at h
      · next e0 =>
        split at h
        · cases h
        · next e1 =>
          split at h
          · cases h
          · next e2 =>
            split at h
            · cases h
            · next e3 =>
              split at h
              · cases h
              · next e4 =>
                obtain ⟨h1, h2, h3⟩ := ih (i + 1) K (wrap64 (x + A[i].f1)) (by omega) (by exact_mod_cast h)
                refine ⟨h1, fun a ha => ?_, fun k hk => ?_⟩
                · rw [List.drop_eq_getElem_cons hil] at ha
                  rcases List.mem_cons.mp ha with rfl | ha
                  · omega
                  · exact h2 a ha
                · obtain ⟨k, rfl⟩ : ∃ j, k = j + 1 := ⟨k - 1, by omega⟩
                  have h5 : palingslaw18_right.l0 k (wrap64 (x + A[i].f1)) A (A.length : Int) ((i : Int) + 1) C A st mem = some true := by exact_mod_cast h3 k (by omega)
                  rw [palingslaw18_right.l0, if_pos (by omega), if_pos (by omega), if_pos (by omega), w64 ((i : Int) + 1) (by omega) (by omega), rd33_get hil, if_pos e0, if_neg e1, if_neg e2, if_neg e3, if_neg e4]
                  exact h5
      · cases h
theorem j0_true (K : Nat) (C : List S26) (A : List S33) (st mem : Int) : image_Image_Right.j0 K true C A st mem ≠ some true := by
  cases K with
  | zero => rw [image_Image_Right.j0]; simp
  | succ K => rw [image_Image_Right.j0, if_pos rfl]; simp
/-- What image.Right says yes to, the law's page says yes to; its numbers are small. -/
theorem same_right (C : List S26) (A : List S33) (st mem : Int) (hC : C.length ≤ 40000) (hA : A.length ≤ 40000) (K : Nat) (h : image_Image_Right.f K C A st mem = some true) (k : Nat) (hk : A.length + C.length + 5 < k) :
    palingslaw18_right.f k C A st mem = some true ∧ 0 ≤ st ∧ st ≤ mem ∧ mem ≤ 1048576 ∧ (∀ a ∈ C, rightB a.f0 a.f1 a.f2 a.f3 a.f4 a.f5 = true) ∧ (∀ a ∈ A, 1 ≤ a.f1 ∧ a.f1 ≤ 4096 ∧ 0 ≤ a.f2 ∧ a.f2 ≤ 2) := by
  unfold image_Image_Right.f at h
  split at h
  · exact absurd h (j0_true _ _ _ _ _)
  · next e1 =>
    split at h
    · exact absurd h (j0_true _ _ _ _ _)
    · next e2 =>
      split at h
      · exact absurd h (j0_true _ _ _ _ _)
      · next e3 =>
        split at h
        · exact absurd h (j0_true _ _ _ _ _)
        · next e4 =>
          split at h
          · exact absurd h (j0_true _ _ _ _ _)
          · next e5 =>
            cases K with
            | zero => rw [image_Image_Right.j0] at h; cases h
            | succ K =>
              rw [image_Image_Right.j0] at h
              split at h
              · cases h
              · next e6 =>
                have e6 : ¬ mem > 1048576 := by simpa using e6
                obtain ⟨h1, h2, h3⟩ := same_r0 C A st mem hC hA A.length 0 K 0 (by omega) h
                refine ⟨?_, by omega, by omega, by omega, h1, by simpa using h2⟩
                obtain ⟨k, rfl⟩ : ∃ j, k = j + 1 := ⟨k - 1, by omega⟩
                unfold palingslaw18_right.f
                rw [if_neg (by omega), if_neg e3, if_neg e4, if_neg e5, palingslaw18_right.j0, if_neg (by simpa using e6)]
                exact h3 k (by omega)
theorem ImageReads_true (l : List Int) (hb : Bytes l) : palingslaw18_ImageReads.f 5000 l = some true := by
  unfold palingslaw18_ImageReads.f
  rw [head_k 5000 (by decide), Option.bind_some, if_pos rfl]
  split
  · rfl
  · next hl =>
    obtain ⟨C, A, st, mem, e, h1, h2, h3⟩ := dec_total l hb (by omega) 5000 (by decide)
    rw [h1, Option.bind_some]
    show (if e = 0 then _ else _) = some true
    rcases h2 with rfl | ⟨rfl, rfl, rfl, rfl, rfl⟩
    · obtain ⟨g1, g2, g3, K, g4⟩ := h3 rfl
      have hlen := congrArg List.length g1
      rw [encI_len] at hlen
      obtain ⟨k1, k2, k3, k4, k5, k6⟩ := same_right C A st mem (by omega) (by omega) K g4 5000 (by omega)
      have hok : okI C A st mem = true := by
        simp only [okI, Bool.and_eq_true, decide_eq_true_eq, List.all_eq_true]
        refine ⟨⟨⟨⟨⟨by omega, by omega⟩, by omega⟩, by omega⟩, fun a ha => ?_⟩, k5⟩
        have := k6 a ha
        omega
      rw [if_pos rfl]
      show ((palingslaw18_right.f 5000 C A st mem).bind fun t246 => (if t246 = true then ((palingslaw18_bytes.f C A st mem).bind fun t247 => (some ((strOfNums t247).toList == (strOfNums l).toList))) else (some false))) = some true
      rw [k1, Option.bind_some, if_pos rfl, palingslaw18_bytes.f, if_pos hok, Option.bind_some, ← g1]
      simp
    · rw [if_neg (by decide), if_pos rfl]
      show ((palingslaw18_same.f 5000 [] [] 0 0 [] [] 0 0).bind fun t250 => (some t250)) = some true
      have h : palingslaw18_same.f 5000 [] [] 0 0 [] [] 0 0 = some true := by decide +kernel
      rw [h]
      rfl
theorem open_bytes {H : Type} {enc : TypeId × Value → H} {w : World} {v : Value} {d : DataW H} {p : List MemPlace} (h : Arg enc Try.prog w 41 v d p) :
    ∃ A c l, v = .slice A l.length c ∧ l.length ≤ c ∧ Kd.C (Kd.int .u8) w A l.length l ∧ ∀ x ∈ l, 0 ≤ x ∧ x < 256 := by
  obtain ⟨fuel, hr⟩ := h.read
  obtain ⟨A, n, cap, xs, h1, h2, _, h3, h4, _⟩ := trod_row (Kd.int .u8) (fun a => (Lit.int .u8 a).wf = true) Try.underlying41 (by kernel_rfl) (fun fuel cs x h => by
    obtain ⟨z, hz, _, hwf⟩ := DataW.trod_int Try.underlying5 h
    exact ⟨z, hz, hwf⟩) hr
  have hn : xs.length = n := h3.1
  subst hn
  refine ⟨A, cap, xs, ?_, h2, h3, fun x hx => u8_bounds (h4 x hx)⟩
  obtain ⟨base, hok⟩ := h.ok
  obtain ⟨a, b, c, rfl⟩ := Go.WideShapes.okWide_slice Try.underlying41 hok
  simp only [Value.cells] at h1
  cases h1
  rfl
theorem reads_walk {H : Type} {enc : TypeId × Value → H} {d : DataW H} {p : List MemPlace} (v : Value) (W : World) (h : Arg enc Try.prog W 41 v d p) :
    Calls Try.prog 5 #[v] W fun e w' => e = .returned (.bool true) ∧ Below W.heap.size W w' := by
  obtain ⟨A, c, l, rfl, hc, hr, hl⟩ := open_bytes h
  exact palingslaw18_ImageReads.calls 5000 A c l true rfl W hr hc (ImageReads_true l hl)
end Go.Proofs.Yteabbcnoamhofaa.B
