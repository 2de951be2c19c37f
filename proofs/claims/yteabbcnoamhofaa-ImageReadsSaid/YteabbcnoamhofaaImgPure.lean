/- An image's bytes: what is read out of bytes is the image that they are; the plain law, on lists. -/
import Derived.Test.YteabbcnoamhofaaCodeB
import Derived.Test.YteabbcnoamhofaaDecode
import Derived.Test.YteabbcnoamhofaaBx5
namespace Go.Proofs.Yteabbcnoamhofaa.B
open Go.RowKit Go.Proofs.Yteabbcnoamhofaa.Mine Go.Proofs.YteabbcnoamhofaaW.PrintWords Go.Proofs.YteabbcnoamhofaaW.PrintLast Go.Proofs.YteabbcnoamhofaaW.PrintMore
set_option linter.unusedSimpArgs false
set_option linter.unusedVariables false

abbrev Bytes (l : List Int) : Prop := ∀ x ∈ l, 0 ≤ x ∧ x < 256
def n4 (x : Int) : List Int := [x % 256, x / 256 % 256, x / 65536 % 256, x / 16777216 % 256]
theorem n4_len (x : Int) : (n4 x).length = 4 := rfl
theorem n4_bytes (x : Int) : Bytes (n4 x) := by
  intro y hy
  simp only [n4, List.mem_cons, List.not_mem_nil, or_false] at hy
  rcases hy with rfl | rfl | rfl | rfl <;> omega
theorem n4_inj {x y : Int} (hx : 0 ≤ x ∧ x < 4294967296) (hy : 0 ≤ y ∧ y < 4294967296) (h : n4 x = n4 y) : x = y := by
  simp only [n4, List.cons.injEq, and_true] at h
  omega
def encA (a : S33) : List Int := n4 a.f1 ++ n4 a.f2
def encC (i : S26) : List Int := bytesI i.f0 i.f1 i.f2 i.f3 i.f4 i.f5
def encI (C : List S26) (A : List S33) (st mem : Int) : List Int := ([112, 97, 108, 49] ++ n4 mem ++ n4 st) ++ (n4 A.length ++ (A.flatMap encA ++ (n4 C.length ++ C.flatMap encC)))
theorem flatA_len : ∀ A : List S33, (A.flatMap encA).length = 8 * A.length
  | [] => rfl
  | a :: A => by rw [List.flatMap_cons, List.length_append, flatA_len A, List.length_cons]; show 8 + _ = _; omega
theorem flatC_len : ∀ C : List S26, (C.flatMap encC).length = 13 * C.length
  | [] => rfl
  | a :: C => by rw [List.flatMap_cons, List.length_append, flatC_len C, List.length_cons]; show 13 + _ = _; omega
theorem encI_len (C : List S26) (A : List S33) (st mem : Int) : (encI C A st mem).length = 20 + 8 * A.length + 13 * C.length := by
  unfold encI
  simp only [List.length_append, flatA_len, flatC_len, n4_len, List.length_cons, List.length_nil]
  omega
theorem encI_bytes (C : List S26) (A : List S33) (st mem : Int) : Bytes (encI C A st mem) := by
  intro x hx
  unfold encI at hx
  simp only [List.mem_append, List.mem_flatMap] at hx
  rcases hx with ((hx | hx) | hx) | hx | ⟨a, _, hx⟩ | hx | ⟨i, _, hx⟩
  · simp only [List.mem_cons, List.not_mem_nil, or_false] at hx
    omega
  · exact n4_bytes _ x hx
  · exact n4_bytes _ x hx
  · exact n4_bytes _ x hx
  · rcases List.mem_append.mp hx with hx | hx <;> exact n4_bytes _ x hx
  · exact n4_bytes _ x hx
  · exact byte_list _ _ _ _ _ _ x hx
/-- No image's bytes begin another's. -/
theorem encI_prefix {C C' : List S26} {A A' : List S33} {st mem st' mem' : Int} {t t' : List Int} (hC : C.length < 4294967296) (hC' : C'.length < 4294967296) (hA : A.length < 4294967296) (hA' : A'.length < 4294967296)
    (h : encI C A st mem ++ t = encI C' A' st' mem' ++ t') : t = t' := by
  unfold encI at h
  simp only [List.append_assoc] at h
  have h1 : ([112, 97, 108, 49] ++ n4 mem ++ n4 st : List Int) ++ (n4 A.length ++ (A.flatMap encA ++ (n4 C.length ++ (C.flatMap encC ++ t)))) = ([112, 97, 108, 49] ++ n4 mem' ++ n4 st' : List Int) ++ (n4 A'.length ++ (A'.flatMap encA ++ (n4 C'.length ++ (C'.flatMap encC ++ t')))) := by
    simp only [List.append_assoc]; exact h
  obtain ⟨_, h2⟩ := List.append_inj h1 rfl
  obtain ⟨h3, h4⟩ := List.append_inj h2 rfl
  have e1 := n4_inj ⟨by omega, by omega⟩ ⟨by omega, by omega⟩ h3
  obtain ⟨_, h5⟩ := List.append_inj h4 (by rw [flatA_len, flatA_len]; omega)
  obtain ⟨h6, h7⟩ := List.append_inj h5 rfl
  have e2 := n4_inj ⟨by omega, by omega⟩ ⟨by omega, by omega⟩ h6
  exact (List.append_inj h7 (by rw [flatC_len, flatC_len]; omega)).2

/-! numbers -/
theorem or_i64 (s t : Int) (i : Nat) (hi : i < 4) (hs0 : 0 ≤ s) (hs1 : s < 256 ^ i) (ht0 : 0 ≤ t) (ht1 : t < 256) : Go.bits .or .i64 s (t * 256 ^ i) = s + t * 256 ^ i := by
  obtain ⟨s, rfl⟩ := Int.eq_ofNat_of_zero_le hs0
  obtain ⟨t, rfl⟩ := Int.eq_ofNat_of_zero_le ht0
  have hs' : s < 2 ^ (8 * i) := by rw [← pow_256] at hs1; exact_mod_cast hs1
  have hp : 2 ^ (8 * i) ≤ 2 ^ 24 := Nat.pow_le_pow_right (by decide) (by omega)
  have hm : 2 ^ (8 * i) * t ≤ 2 ^ 24 * 255 := Nat.mul_le_mul hp (by omega)
  have e : (t : Int) * 256 ^ i = ((2 ^ (8 * i) * t : Nat) : Int) := by rw [← pow_256, Int.natCast_mul, Int.natCast_pow, Int.mul_comm]; rfl
  rw [e, (bits_nat .i64 63 (by decide) (fun n h0 h1 => by rw [IntKind.wrap_i64]; omega) _ _ (by omega) (by omega)).2]
  rw [Nat.or_comm, ← Nat.two_pow_add_eq_or_of_lt hs', Int.natCast_add, Int.add_comm]
theorem num4_eq (xs : List Int) (hb : Bytes xs) : num4 xs = rd xs 0 + rd xs 1 * 256 + rd xs 2 * 65536 + rd xs 3 * 16777216 := by
  have h0 := rd_small xs hb 0
  have h1 := rd_small xs hb 1
  have h2 := rd_small xs hb 2
  have h3 := rd_small xs hb 3
  simp only [Int.natCast_zero, Int.natCast_one, Int.cast_ofNat_Int] at h0 h1 h2 h3
  show Go.bits .or .i64 (Go.bits .or .i64 (Go.bits .or .i64 (wrap64 (rd xs 0)) (wrap64 (wrap64 (rd xs 1) * 256))) (wrap64 (wrap64 (rd xs 2) * 65536))) (wrap64 (wrap64 (rd xs 3) * 16777216)) = _
  rw [w64 (rd xs 0) (by omega) (by omega), w64 (rd xs 1) (by omega) (by omega), w64 (rd xs 2) (by omega) (by omega), w64 (rd xs 3) (by omega) (by omega), w64 (rd xs 1 * 256) (by omega) (by omega), w64 (rd xs 2 * 65536) (by omega) (by omega), w64 (rd xs 3 * 16777216) (by omega) (by omega)]
  have e1 := or_i64 (rd xs 0) (rd xs 1) 1 (by decide) (by omega) (by omega) (by omega) (by omega)
  have e2 := or_i64 (rd xs 0 + rd xs 1 * 256) (rd xs 2) 2 (by decide) (by omega) (by omega) (by omega) (by omega)
  have e3 := or_i64 (rd xs 0 + rd xs 1 * 256 + rd xs 2 * 65536) (rd xs 3) 3 (by decide) (by omega) (by omega) (by omega) (by omega)
  simp only [Int.reducePow] at e1 e2 e3
  rw [e1, e2, e3]
/-- What a number's reading leaves. -/
theorem num_any (xs : List Int) (hb : Bytes xs) (xb : Bool) (M : Int) (hM : 0 ≤ M) {n : Int} {ys : List Int} {yb : Bool} (h : numOf xs xb M = (n, ys, yb)) :
    0 ≤ n ∧ n ≤ M ∧ Bytes ys ∧ ys.length ≤ xs.length ∧ (yb = false → xb = false ∧ xs = n4 n ++ ys) := by
  unfold numOf at h
  split at h
  · simp only [Prod.mk.injEq] at h
    obtain ⟨rfl, rfl, rfl⟩ := h
    exact ⟨Int.le_refl _, hM, hb, Nat.le_refl _, fun h => by cases h⟩
  · next hx =>
    split at h
    · simp only [Prod.mk.injEq] at h
      obtain ⟨rfl, rfl, rfl⟩ := h
      exact ⟨Int.le_refl _, hM, hb, Nat.le_refl _, fun h => by cases h⟩
    · next hl =>
      split at h
      · simp only [Prod.mk.injEq] at h
        obtain ⟨rfl, rfl, rfl⟩ := h
        exact ⟨Int.le_refl _, hM, fun x hx => hb x (List.mem_of_mem_drop hx), by rw [List.length_drop]; omega, fun h => by cases h⟩
      · next hn =>
        rw [num4_eq xs hb] at h hn
        simp only [Prod.mk.injEq] at h
        obtain ⟨rfl, rfl, rfl⟩ := h
        match xs, hl with
        | [], hl => exact absurd (show ((0 : Nat) : Int) < 4 by decide) hl
        | [_], hl => exact absurd (show ((1 : Nat) : Int) < 4 by decide) hl
        | [_, _], hl => exact absurd (show ((2 : Nat) : Int) < 4 by decide) hl
        | [_, _, _], hl => exact absurd (show ((3 : Nat) : Int) < 4 by decide) hl
        | x0 :: x1 :: x2 :: x3 :: ys, hl =>
          have b0 := hb x0 (by simp)
          have b1 := hb x1 (by simp)
          have b2 := hb x2 (by simp)
          have b3 := hb x3 (by simp)
          have e0 : rd (x0 :: x1 :: x2 :: x3 :: ys) 0 = x0 := rfl
          have e1 : rd (x0 :: x1 :: x2 :: x3 :: ys) 1 = x1 := rfl
          have e2 : rd (x0 :: x1 :: x2 :: x3 :: ys) 2 = x2 := rfl
          have e3 : rd (x0 :: x1 :: x2 :: x3 :: ys) 3 = x3 := rfl
          rw [e0, e1, e2, e3] at hn ⊢
          refine ⟨by omega, by omega, fun x hx => hb x (by simp at hx ⊢; simp [hx]), by show ys.length ≤ ys.length + 1 + 1 + 1 + 1; omega, fun _ => ⟨by cases xb <;> simp_all, ?_⟩⟩
          show _ = n4 _ ++ ys
          have d0 : (x0 + x1 * 256 + x2 * 65536 + x3 * 16777216) % 256 = x0 := by omega
          have d1 : (x0 + x1 * 256 + x2 * 65536 + x3 * 16777216) / 256 % 256 = x1 := by omega
          have d2 : (x0 + x1 * 256 + x2 * 65536 + x3 * 16777216) / 65536 % 256 = x2 := by omega
          have d3 : (x0 + x1 * 256 + x2 * 65536 + x3 * 16777216) / 16777216 % 256 = x3 := by omega
          rw [n4, d0, d1, d2, d3]
          rfl

/-! whether an image is right is told -/
theorem right_l1 (C : List S26) (A : List S33) (st mem : Int) (hC : C.length ≤ 40000) : ∀ (m i k : Nat) (x : Int), i + m = C.length → m < k → ∃ t, image_Image_Right.l1 k x C (C.length : Int) (i : Int) C A st mem = some t := by
  intro m
  induction m with
  | zero =>
    intro i k x hi hk
    obtain ⟨k, rfl⟩ : ∃ j, k = j + 1 := ⟨k - 1, by omega⟩
    rw [image_Image_Right.l1, if_neg (by omega)]
    exact ⟨_, rfl⟩
  | succ m ih =>
    intro i k x hi hk
    obtain ⟨k, rfl⟩ : ∃ j, k = j + 1 := ⟨k - 1, by omega⟩
    rw [image_Image_Right.l1, if_pos (by omega), if_pos (by omega), if_pos (by omega), code_Ins_Right.f, Option.bind_some, w64 ((i : Int) + 1) (by omega) (by omega)]
    obtain ⟨t, ht⟩ := ih (i + 1) k x (by omega) (by omega)
    have ht' : image_Image_Right.l1 k x C (C.length : Int) ((i : Int) + 1) C A st mem = some t := by exact_mod_cast ht
    split
    · obtain ⟨g, hg⟩ : ∃ g, code_Ins_Goes.f (rd_T26 C i).f0 (rd_T26 C i).f1 (rd_T26 C i).f2 (rd_T26 C i).f3 (rd_T26 C i).f4 (rd_T26 C i).f5 = some g := by
        unfold code_Ins_Goes.f
        split
        · exact ⟨_, rfl⟩
        · split <;> exact ⟨_, rfl⟩
      rw [hg, Option.bind_some]
      split
      · split
        · exact ⟨_, rfl⟩
        · exact ⟨_, ht'⟩
      · exact ⟨_, ht'⟩
    · exact ⟨_, rfl⟩
theorem right_l0 (C : List S26) (A : List S33) (st mem : Int) (hC : C.length ≤ 40000) (hA : A.length ≤ 40000) : ∀ (m i k : Nat) (x : Int), i + m = A.length → m + C.length + 1 < k → ∃ t, image_Image_Right.l0 k x A (A.length : Int) (i : Int) C A st mem = some t := by
  intro m
  induction m with
  | zero =>
    intro i k x hi hk
    obtain ⟨k, rfl⟩ : ∃ j, k = j + 1 := ⟨k - 1, by omega⟩
    rw [image_Image_Right.l0, if_neg (by omega)]
    exact right_l1 C A st mem hC C.length 0 k x (by omega) (by omega)
  | succ m ih =>
    intro i k x hi hk
    obtain ⟨k, rfl⟩ : ∃ j, k = j + 1 := ⟨k - 1, by omega⟩
    rw [image_Image_Right.l0, if_pos (by omega), if_pos (by omega), if_pos (by omega), w64 ((i : Int) + 1) (by omega) (by omega)]
    obtain ⟨t, ht⟩ := ih (i + 1) k (wrap64 (x + (rd_T33 A i).f1)) (by omega) (by omega)
    have ht' : image_Image_Right.l0 k (wrap64 (x + (rd_T33 A i).f1)) A (A.length : Int) ((i : Int) + 1) C A st mem = some t := by exact_mod_cast ht
    split
    · split
      · exact ⟨_, rfl⟩
      · split
        · exact ⟨_, rfl⟩
        · split
          · exact ⟨_, rfl⟩
          · split
            · exact ⟨_, rfl⟩
            · exact ⟨_, ht'⟩
    · exact ⟨_, rfl⟩
theorem right_j0 (x : Bool) (C : List S26) (A : List S33) (st mem : Int) (hC : C.length ≤ 40000) (hA : A.length ≤ 40000) (k : Nat) (hk : A.length + C.length + 5 < k) : ∃ t, image_Image_Right.j0 k x C A st mem = some t := by
  obtain ⟨k, rfl⟩ : ∃ j, k = j + 1 := ⟨k - 1, by omega⟩
  rw [image_Image_Right.j0]
  split
  · exact ⟨_, rfl⟩
  · exact right_l0 C A st mem hC hA A.length 0 k 0 (by omega) (by omega)
theorem right_total (C : List S26) (A : List S33) (st mem : Int) (hC : C.length ≤ 40000) (hA : A.length ≤ 40000) (k : Nat) (hk : A.length + C.length + 5 < k) : ∃ t, image_Image_Right.f k C A st mem = some t := by
  unfold image_Image_Right.f
  have h := fun x => right_j0 x C A st mem hC hA k hk
  repeat' split
  all_goals exact h _

/-! reading -/
theorem dec_l1 (xs : List Int) (hb : Bytes xs) (n : Nat) (hlen : xs.length = n * 13) (hn : n ≤ 400) (A : List S33) (hA : A.length ≤ 200) (st mem : Int) : ∀ (m i k : Nat) (C : List S26), i + m = n → C.length = i → 1000 + m ≤ k →
    ∃ C' A' st' mem' e, image_Decode.l1 k xs (n : Int) (i : Int) C A st mem = some (C', A', st', mem', e) ∧ (e = 0 ∨ (e = 2 ∧ C' = [] ∧ A' = [] ∧ st' = 0 ∧ mem' = 0)) ∧
      (e = 0 → A' = A ∧ st' = st ∧ mem' = mem ∧ (∃ D, C' = C ++ D ∧ D.length = m ∧ D.flatMap encC = xs.drop (i * 13)) ∧ ∃ K, image_Image_Right.f K C' A st mem = some true) := by
  intro m
  induction m with
  | zero =>
    intro i k C hi hC hk
    obtain ⟨k, rfl⟩ : ∃ j, k = j + 1 := ⟨k - 1, by omega⟩
    obtain ⟨t, ht⟩ := right_total C A st mem (by omega) (by omega) k (by omega)
    rw [image_Decode.l1, if_neg (by omega), ht, Option.bind_some]
    split
    · next h =>
      subst h
      refine ⟨_, _, _, _, _, rfl, .inl rfl, fun _ => ⟨rfl, rfl, rfl, ⟨[], by simp, rfl, ?_⟩, k, ht⟩⟩
      rw [List.drop_of_length_le (by omega)]
      rfl
    · exact ⟨_, _, _, _, _, rfl, .inr ⟨rfl, rfl, rfl, rfl, rfl⟩, fun h => absurd h (by decide)⟩
  | succ m ih =>
    intro i k C hi hC hk
    obtain ⟨k, rfl⟩ : ∃ j, k = j + 1 := ⟨k - 1, by omega⟩
    have hj : ((i : Int) * 13).toNat = i * 13 := by omega
    have hj2 : (((i : Int) + 1) * 13).toNat = i * 13 + 13 := by omega
    rw [image_Decode.l1, if_pos (by omega), w64 ((i : Int) * 13) (by omega) (by omega), w64 ((i : Int) + 1) (by omega) (by omega), w64 (((i : Int) + 1) * 13) (by omega) (by omega), if_pos (by omega), if_pos (by omega), if_pos (by omega), hj, hj2]
    obtain ⟨s, hs⟩ : ∃ s, (xs.take (i * 13 + 13)).drop (i * 13) = s := ⟨_, rfl⟩
    have hsl : s.length = 13 := by rw [← hs, List.length_drop, List.length_take]; omega
    have hsb : Bytes s := fun x hx => hb x (by rw [← hs] at hx; exact List.mem_of_mem_take (List.mem_of_mem_drop hx))
    have hsx : xs.drop (i * 13) = s ++ xs.drop ((i + 1) * 13) := by
      rw [← hs, List.drop_take, show i * 13 + 13 - i * 13 = 13 by omega, show (i + 1) * 13 = i * 13 + 13 by omega, ← List.drop_drop, List.take_append_drop]
    rw [hs, decode_k k (by omega) s hsb hsl]
    split
    · rw [Option.bind_some, if_pos rfl, if_pos (by omega)]
      obtain ⟨C', A', st', mem', e, h1, h2, h3⟩ := ih (i + 1) k (C ++ [⟨rd s 0, rd s 1, rd s 2, rd s 3, rd s 4, numI s⟩]) (by omega) (by simp [hC]) (by omega)
      refine ⟨C', A', st', mem', e, by exact_mod_cast h1, h2, fun he => ?_⟩
      obtain ⟨g1, g2, g3, ⟨D, g4, g5, g6⟩, g7⟩ := h3 he
      refine ⟨g1, g2, g3, ⟨⟨rd s 0, rd s 1, rd s 2, rd s 3, rd s 4, numI s⟩ :: D, by rw [g4, List.append_assoc]; rfl, by rw [List.length_cons, g5], ?_⟩, g7⟩
      rw [List.flatMap_cons, g6, hsx]
      show bytesI _ _ _ _ _ _ ++ _ = _
      rw [bytes_decode s hsl hsb]
    · rw [Option.bind_some, if_neg (by decide)]
      exact ⟨_, _, _, _, _, rfl, .inr ⟨rfl, rfl, rfl, rfl, rfl⟩, fun h => absurd h (by decide)⟩
theorem dec_j2 (xs : List Int) (hb : Bytes xs) (hl : xs.length ≤ 4000) (n : Int) (hn : 0 ≤ n) (hn2 : n ≤ 32768) (x : Bool) (hx : x = false → (xs.length : Int) = n * 13) (A : List S33) (hA : A.length ≤ 200) (st mem : Int) (k : Nat) (hk : 2000 ≤ k) :
    ∃ C' A' st' mem' e, image_Decode.j2 k xs n x A st mem = some (C', A', st', mem', e) ∧ (e = 0 ∨ (e = 2 ∧ C' = [] ∧ A' = [] ∧ st' = 0 ∧ mem' = 0)) ∧
      (e = 0 → x = false ∧ A' = A ∧ st' = st ∧ mem' = mem ∧ (C'.length : Int) = n ∧ C'.flatMap encC = xs ∧ ∃ K, image_Image_Right.f K C' A st mem = some true) := by
  obtain ⟨k, rfl⟩ : ∃ j, k = j + 1 := ⟨k - 1, by omega⟩
  rw [image_Decode.j2]
  split
  · exact ⟨_, _, _, _, _, rfl, .inr ⟨rfl, rfl, rfl, rfl, rfl⟩, fun h => absurd h (by decide)⟩
  · next h =>
    obtain ⟨n, rfl⟩ := Int.eq_ofNat_of_zero_le hn
    have hx := hx (by simpa using h)
    obtain ⟨C', A', st', mem', e, h1, h2, h3⟩ := dec_l1 xs hb n (by omega) (by omega) A hA st mem n 0 k [] (by omega) rfl (by omega)
    refine ⟨C', A', st', mem', e, h1, h2, fun he => ?_⟩
    obtain ⟨g1, g2, g3, ⟨D, g4, g5, g6⟩, g7⟩ := h3 he
    rw [List.nil_append] at g4
    subst g4
    exact ⟨by simpa using h, g1, g2, g3, by omega, by simpa using g6, g7⟩
theorem dec_l0 (n : Nat) (hn : n ≤ 64) (st mem : Int) : ∀ (m i k : Nat) (xs : List Int) (xb : Bool) (arrs : List S33) (x6 : Int), i + m = n → Bytes xs → xs.length ≤ 4000 → arrs.length = i → 2100 + m ≤ k →
    ∃ C' A' st' mem' e, image_Decode.l0 k x6 (n : Int) (i : Int) xs xb arrs st mem = some (C', A', st', mem', e) ∧ (e = 0 ∨ (e = 2 ∧ C' = [] ∧ A' = [] ∧ st' = 0 ∧ mem' = 0)) ∧
      (e = 0 → xb = false ∧ st' = st ∧ mem' = mem ∧ C'.length ≤ 32768 ∧ (∃ D, A' = arrs ++ D ∧ D.length = m ∧ xs = D.flatMap encA ++ (n4 C'.length ++ C'.flatMap encC)) ∧ ∃ K, image_Image_Right.f K C' A' st mem = some true) := by
  intro m
  induction m with
  | zero =>
    intro i k xs xb arrs x6 hi hb hl ha hk
    obtain ⟨k, rfl⟩ : ∃ j, k = j + 1 := ⟨k - 1, by omega⟩
    obtain ⟨⟨n3, ys, yb⟩, hq⟩ : ∃ q, numOf xs xb 32768 = q := ⟨_, rfl⟩
    obtain ⟨q1, q2, q3, q4, q5⟩ := num_any xs hb xb 32768 (by decide) hq
    rw [image_Decode.l0, if_neg (by omega), image_num.f, hq, Option.bind_some]
    show ∃ C' A' st' mem' e, (if yb = true then image_Decode.j2 k ys n3 true arrs st mem else image_Decode.j2 k ys n3 ((ys.length : Int) != wrap64 (n3 * 13)) arrs st mem) = some (C', A', st', mem', e) ∧ _
    split
    · obtain ⟨C', A', st', mem', e, h1, h2, h3⟩ := dec_j2 ys q3 (by omega) n3 q1 q2 true (fun h => by cases h) arrs (by omega) st mem k (by omega)
      exact ⟨C', A', st', mem', e, h1, h2, fun he => by cases (h3 he).1⟩
    · next hyb =>
      rw [w64 (n3 * 13) (by omega) (by omega)]
      obtain ⟨C', A', st', mem', e, h1, h2, h3⟩ := dec_j2 ys q3 (by omega) n3 q1 q2 ((ys.length : Int) != n3 * 13) (fun h => by simpa using h) arrs (by omega) st mem k (by omega)
      refine ⟨C', A', st', mem', e, h1, h2, fun he => ?_⟩
      obtain ⟨g1, g2, g3, g4, g5, g6, g7⟩ := h3 he
      obtain ⟨p1, p2⟩ := q5 (by simpa using hyb)
      refine ⟨p1, g3, g4, by omega, ⟨[], by rw [g2, List.append_nil], rfl, ?_⟩, by rw [g2]; exact g7⟩
      rw [g5, g6, p2]
      rfl
  | succ m ih =>
    intro i k xs xb arrs x6 hi hb hl ha hk
    obtain ⟨k, rfl⟩ : ∃ j, k = j + 1 := ⟨k - 1, by omega⟩
    obtain ⟨⟨n1, ys, yb⟩, hq⟩ : ∃ q, numOf xs xb 4096 = q := ⟨_, rfl⟩
    obtain ⟨q1, q2, q3, q4, q5⟩ := num_any xs hb xb 4096 (by decide) hq
    obtain ⟨⟨n2, zs, zb⟩, hr⟩ : ∃ q, numOf ys yb 2 = q := ⟨_, rfl⟩
    obtain ⟨r1, r2, r3, r4, r5⟩ := num_any ys q3 yb 2 (by decide) hr
    rw [image_Decode.l0, if_pos (by omega), image_num.f, hq, Option.bind_some]
    show ∃ C' A' st' mem' e, ((image_num.f ys yb 2).bind fun n2 => (if arrs.length < 5864062014805 then (image_Decode.l0 k (wrap64 (x6 + n1)) (n : Int) (wrap64 ((i : Int) + 1)) n2.2.1 n2.2.2 (arrs ++ [(⟨x6, n1, n2.1⟩ : S33)]) st mem) else (none))) = some (C', A', st', mem', e) ∧ _
    rw [image_num.f, hr, Option.bind_some, if_pos (by omega), w64 ((i : Int) + 1) (by omega) (by omega)]
    obtain ⟨C', A', st', mem', e, h1, h2, h3⟩ := ih (i + 1) k zs zb (arrs ++ [⟨x6, n1, n2⟩]) (wrap64 (x6 + n1)) (by omega) r3 (by omega) (by simp [ha]) (by omega)
    refine ⟨C', A', st', mem', e, by exact_mod_cast h1, h2, fun he => ?_⟩
    obtain ⟨g1, g2, g3, g4, ⟨D, g5, g6, g7⟩, g8⟩ := h3 he
    obtain ⟨p1, p2⟩ := r5 g1
    obtain ⟨s1, s2⟩ := q5 p1
    refine ⟨s1, g2, g3, g4, ⟨⟨x6, n1, n2⟩ :: D, by rw [g5, List.append_assoc]; rfl, by rw [List.length_cons, g6], ?_⟩, g8⟩
    rw [s2, p2, g7, List.flatMap_cons]
    show n4 n1 ++ (n4 n2 ++ _) = (n4 n1 ++ n4 n2) ++ _ ++ _
    simp only [List.append_assoc]
/-- What image.Decode answers: an image, and the bytes are that image's; or that they are none. -/
theorem dec_total (l : List Int) (hb : Bytes l) (hl : l.length ≤ 4000) (k : Nat) (hk : 3000 ≤ k) : ∃ C' A' st' mem' e, image_Decode.f k l = some (C', A', st', mem', e) ∧ (e = 0 ∨ (e = 2 ∧ C' = [] ∧ A' = [] ∧ st' = 0 ∧ mem' = 0)) ∧
    (e = 0 → l = encI C' A' st' mem' ∧ C'.length ≤ 32768 ∧ A'.length ≤ 64 ∧ ∃ K, image_Image_Right.f K C' A' st' mem' = some true) := by
  obtain ⟨k, rfl⟩ : ∃ j, k = j + 1 := ⟨k - 1, by omega⟩
  unfold image_Decode.f
  by_cases h4 : (l.length : Int) < 4
  · rw [if_pos h4, image_Decode.j0, if_pos rfl]
    exact ⟨_, _, _, _, _, rfl, .inr ⟨rfl, rfl, rfl, rfl, rfl⟩, fun h => absurd h (by decide)⟩
  · rw [if_neg h4, if_pos (by omega), image_Decode.j0]
    split
    · exact ⟨_, _, _, _, _, rfl, .inr ⟨rfl, rfl, rfl, rfl, rfl⟩, fun h => absurd h (by decide)⟩
    · next hm =>
      have hm : ((strOfNums (l.take 4)).toList == ([112, 97, 108, 49] : List UInt8)) = true := by simpa using hm
      have hm' : l.take 4 = [112, 97, 108, 49] := by
        rw [← bytes_back (x := l.take 4) (fun x hx => hb x (List.mem_of_mem_take hx)), beq_iff_eq.mp hm]
        rfl
      have hbd : Bytes (l.drop 4) := fun x hx => hb x (List.mem_of_mem_drop hx)
      obtain ⟨⟨n1, xs, xb⟩, hq⟩ : ∃ q, numOf (l.drop 4) false 1048576 = q := ⟨_, rfl⟩
      obtain ⟨q1, q2, q3, q4, q5⟩ := num_any _ hbd false 1048576 (by decide) hq
      obtain ⟨⟨n2, ys, yb⟩, hr⟩ : ∃ q, numOf xs xb 1048576 = q := ⟨_, rfl⟩
      obtain ⟨r1, r2, r3, r4, r5⟩ := num_any _ q3 xb 1048576 (by decide) hr
      obtain ⟨⟨n3, zs, zb⟩, ht⟩ : ∃ q, numOf ys yb 64 = q := ⟨_, rfl⟩
      obtain ⟨t1, t2, t3, t4, t5⟩ := num_any _ r3 yb 64 (by decide) ht
      rw [if_pos (by omega), image_num.f, hq, Option.bind_some]
      show ∃ C' A' st' mem' e, ((image_num.f xs xb 1048576).bind fun n2 => ((image_num.f n2.2.1 n2.2.2 64).bind fun n3 => (image_Decode.l0 k 0 n3.1 0 n3.2.1 n3.2.2 ([] : List (S33)) n2.1 n1))) = some (C', A', st', mem', e) ∧ _
      rw [image_num.f, hr, Option.bind_some]
      show ∃ C' A' st' mem' e, ((image_num.f ys yb 64).bind fun n3 => (image_Decode.l0 k 0 n3.1 0 n3.2.1 n3.2.2 ([] : List (S33)) n2 n1)) = some (C', A', st', mem', e) ∧ _
      rw [image_num.f, ht, Option.bind_some]
      obtain ⟨n, rfl⟩ := Int.eq_ofNat_of_zero_le t1
      rw [List.length_drop] at q4
      obtain ⟨C', A', st', mem', e, h1, h2, h3⟩ := dec_l0 n (by omega) n2 n1 n 0 k zs zb [] 0 (by omega) t3 (by omega) rfl (by omega)
      refine ⟨C', A', st', mem', e, h1, h2, fun he => ?_⟩
      obtain ⟨g1, g2, g3, g4, ⟨D, g5, g6, g7⟩, g8⟩ := h3 he
      obtain ⟨p1, p2⟩ := t5 g1
      obtain ⟨s1, s2⟩ := r5 p1
      obtain ⟨_, o2⟩ := q5 s1
      rw [List.nil_append] at g5
      subst g5
      refine ⟨?_, g4, by omega, by rw [g2, g3]; exact g8⟩
      rw [← List.take_append_drop 4 l, hm', o2, s2, p2, g7, g2, g3, ← g6]
      unfold encI
      simp only [List.append_assoc]
end Go.Proofs.Yteabbcnoamhofaa.B
