/- ImageCuts: a byte more, or one less, and it is none; a byte turned, and it is none, or another one. -/
import Derived.Test.YteabbcnoamhofaaCutsW
import Derived.Test.YteabbcnoamhofaaImgEnc
import Derived.Test.YteabbcnoamhofaaOpenImg
namespace Go.Proofs.Yteabbcnoamhofaa.B
open Go.RowKit Go.Proofs.Yteabbcnoamhofaa.Mine Go.Proofs.YteabbcnoamhofaaW.PrintWords Go.Proofs.YteabbcnoamhofaaW.PrintLast Go.Proofs.YteabbcnoamhofaaW.PrintMore
set_option linter.unusedVariables false
set_option linter.unusedSimpArgs false

set_option maxRecDepth 100000 in
set_option maxHeartbeats 4000000 in
theorem cuts_few (k : Nat) (A0_0 : Option Addr) (c0_0 : Nat) (l0_0 : List (S26)) (A0_1 : Option Addr) (c0_1 : Nat) (l0_1 : List (S33)) (a0_2 : Int) (a0_3 : Int) (a1 : Int) (a2 : Int) (w : World) (hr0_0 : Kd.C k26 w A0_0 l0_0.length l0_0) (hc0_0 : l0_0.length ≤ c0_0) (hr0_1 : Kd.C k33 w A0_1 l0_1.length l0_1) (hc0_1 : l0_1.length ≤ c0_1)
    (hhead : palingslaw18_head.f k = some true) (hfew : palingslaw18_few.f l0_0 l0_1 a0_2 a0_3 = some false) :
    Calls Try.prog 6 #[.agg #[.slice A0_0 l0_0.length c0_0, .slice A0_1 l0_1.length c0_1, .int .i64 a0_2, .int .i64 a0_3], .int .i64 a1, .int .u8 a2] w fun e w' => e = .returned (.bool true) ∧ Below w.heap.size w w' := by
  have hu30 := Try.underlying30
  have HB := Aside0.mk (Below.refl w.heap.size w)
  go_enter Try.func6, Try.ntmps6
  go_wp2_with (first | ((with_reducible refine gate_dst (N := 3) rfl ?_); refine box_event ?hg (N := 3) ?hd (cs := #[.slice A0_0 l0_0.length c0_0, .slice A0_1 l0_1.length c0_1, .int .i64 a0_2, .int .i64 a0_3]) (t := 30) ?hr ?_; (case hd => rfl); (case hg => rfl); (case hr => first | (go_simp; done) | (go_simp; rfl)); intro gm hg wm hbox hb; have HB' := Aside0.mk (below_step HB.out hb); have GEM := Aside0.mk (show w.heap.size ≤ gm by rw [hg]; exact below_size HB.out); clear HB; have HB := HB'; have BM := Aside0.mk hbox; clear HB' hb hg) | ((with_reducible refine gate_callee (f := 7) rfl ?_); refine goesL_ (some 16) rfl rfl Try.func7 (by kernel_rfl) rfl #[] rfl (by (try simp only [List.map_toArray, List.map_cons, List.map_nil]); first | done | rfl) ?_; (with_reducible refine (palingslaw18_head.calls k true _ hhead).mono ?_); rintro e wh ⟨rfl, hb⟩; refine ⟨_, rfl, ?_⟩; have HB' := Aside0.mk (below_step HB.out hb); have BM' := Aside0.mk (blk_below BM.out hb); clear HB BM; have HB := HB'; have BM := BM'; clear HB' BM' hb; obtain ⟨hm0, hm1, hm2, hm3⟩ := box4 BM.out) | ((with_reducible refine gate_callee (f := 9) rfl ?_); refine goesL_ (some 19) rfl rfl Try.func9 (by kernel_rfl) rfl #[.agg #[.slice A0_0 l0_0.length c0_0, .slice A0_1 l0_1.length c0_1, .int .i64 a0_2, .int .i64 a0_3]] rfl (by (try simp only [List.map_toArray, List.map_cons, List.map_nil]); first | done | rfl) ?_; (with_reducible refine (palingslaw18_few.calls _ _ l0_0 _ _ l0_1 a0_2 a0_3 false _ (Kd.C_below hr0_0 HB.out) hc0_0 (Kd.C_below hr0_1 HB.out) hc0_1 hfew).mono ?_); rintro e wf ⟨rfl, hb⟩; refine ⟨_, rfl, ?_⟩; have HB' := Aside0.mk (below_step HB.out hb); have BM' := Aside0.mk (blk_below BM.out hb); clear HB BM; have HB := HB'; have BM := BM'; clear HB' BM' hb; obtain ⟨hm0, hm1, hm2, hm3⟩ := box4 BM.out))
  go_ret
  exact ⟨rfl, HB.out⟩
set_option maxRecDepth 100000 in
set_option maxHeartbeats 4000000 in
theorem cuts_bits (k : Nat) (A0_0 : Option Addr) (c0_0 : Nat) (l0_0 : List (S26)) (A0_1 : Option Addr) (c0_1 : Nat) (l0_1 : List (S33)) (a0_2 : Int) (a0_3 : Int) (a1 : Int) (a2 : Int) (w : World) (hr0_0 : Kd.C k26 w A0_0 l0_0.length l0_0) (hc0_0 : l0_0.length ≤ c0_0) (hr0_1 : Kd.C k33 w A0_1 l0_1.length l0_1) (hc0_1 : l0_1.length ≤ c0_1)
    (hhead : palingslaw18_head.f k = some true) (hfew : palingslaw18_few.f l0_0 l0_1 a0_2 a0_3 = some true) (ha2 : a2 = 0) :
    Calls Try.prog 6 #[.agg #[.slice A0_0 l0_0.length c0_0, .slice A0_1 l0_1.length c0_1, .int .i64 a0_2, .int .i64 a0_3], .int .i64 a1, .int .u8 a2] w fun e w' => e = .returned (.bool true) ∧ Below w.heap.size w w' := by
  have hu30 := Try.underlying30
  have HB := Aside0.mk (Below.refl w.heap.size w)
  have ha2b : (a2 == 0) = true := beq_iff_eq.mpr ha2
  subst ha2
  go_enter Try.func6, Try.ntmps6
  go_wp2_with (first | ((with_reducible refine gate_dst (N := 3) rfl ?_); refine box_event ?hg (N := 3) ?hd (cs := #[.slice A0_0 l0_0.length c0_0, .slice A0_1 l0_1.length c0_1, .int .i64 a0_2, .int .i64 a0_3]) (t := 30) ?hr ?_; (case hd => rfl); (case hg => rfl); (case hr => first | (go_simp; done) | (go_simp; rfl)); intro gm hg wm hbox hb; have HB' := Aside0.mk (below_step HB.out hb); have GEM := Aside0.mk (show w.heap.size ≤ gm by rw [hg]; exact below_size HB.out); clear HB; have HB := HB'; have BM := Aside0.mk hbox; clear HB' hb hg) | ((with_reducible refine gate_callee (f := 7) rfl ?_); refine goesL_ (some 16) rfl rfl Try.func7 (by kernel_rfl) rfl #[] rfl (by (try simp only [List.map_toArray, List.map_cons, List.map_nil]); first | done | rfl) ?_; (with_reducible refine (palingslaw18_head.calls k true _ hhead).mono ?_); rintro e wh ⟨rfl, hb⟩; refine ⟨_, rfl, ?_⟩; have HB' := Aside0.mk (below_step HB.out hb); have BM' := Aside0.mk (blk_below BM.out hb); clear HB BM; have HB := HB'; have BM := BM'; clear HB' BM' hb; obtain ⟨hm0, hm1, hm2, hm3⟩ := box4 BM.out) | ((with_reducible refine gate_callee (f := 9) rfl ?_); refine goesL_ (some 19) rfl rfl Try.func9 (by kernel_rfl) rfl #[.agg #[.slice A0_0 l0_0.length c0_0, .slice A0_1 l0_1.length c0_1, .int .i64 a0_2, .int .i64 a0_3]] rfl (by (try simp only [List.map_toArray, List.map_cons, List.map_nil]); first | done | rfl) ?_; (with_reducible refine (palingslaw18_few.calls _ _ l0_0 _ _ l0_1 a0_2 a0_3 true _ (Kd.C_below hr0_0 HB.out) hc0_0 (Kd.C_below hr0_1 HB.out) hc0_1 hfew).mono ?_); rintro e wf ⟨rfl, hb⟩; refine ⟨_, rfl, ?_⟩; have HB' := Aside0.mk (below_step HB.out hb); have BM' := Aside0.mk (blk_below BM.out hb); clear HB BM; have HB := HB'; have BM := BM'; clear HB' BM' hb; obtain ⟨hm0, hm1, hm2, hm3⟩ := box4 BM.out))
  go_ret
  exact ⟨rfl, HB.out⟩
set_option maxRecDepth 100000 in
set_option maxHeartbeats 4000000 in
theorem cuts_none (k : Nat) (A0_0 : Option Addr) (c0_0 : Nat) (l0_0 : List (S26)) (A0_1 : Option Addr) (c0_1 : Nat) (l0_1 : List (S33)) (a0_2 : Int) (a0_3 : Int) (a1 : Int) (a2 : Int) (w : World) (hr0_0 : Kd.C k26 w A0_0 l0_0.length l0_0) (hc0_0 : l0_0.length ≤ c0_0) (hr0_1 : Kd.C k33 w A0_1 l0_1.length l0_1) (hc0_1 : l0_1.length ≤ c0_1)
    (hhead : palingslaw18_head.f k = some true) (hfew : palingslaw18_few.f l0_0 l0_1 a0_2 a0_3 = some true) (ha2 : a2 ≠ 0) (b : List Int) (e_ : Int) (he_ : e_ ≠ 0) (henc : image_Encode.f k l0_0 l0_1 a0_2 a0_3 = some (b, e_)) :
    Calls Try.prog 6 #[.agg #[.slice A0_0 l0_0.length c0_0, .slice A0_1 l0_1.length c0_1, .int .i64 a0_2, .int .i64 a0_3], .int .i64 a1, .int .u8 a2] w fun e w' => e = .returned (.bool true) ∧ Below w.heap.size w w' := by
  have hu30 := Try.underlying30
  have HB := Aside0.mk (Below.refl w.heap.size w)
  have ha2b : (a2 == 0) = false := beq_eq_false_iff_ne.mpr ha2
  have heb : (e_ == 0) = false := beq_eq_false_iff_ne.mpr he_
  have heb2 : (e_ != 0) = true := bne_iff_ne.mpr he_
  go_enter Try.func6, Try.ntmps6
  go_wp2_with (first | ((with_reducible refine gate_dst (N := 3) rfl ?_); refine box_event ?hg (N := 3) ?hd (cs := #[.slice A0_0 l0_0.length c0_0, .slice A0_1 l0_1.length c0_1, .int .i64 a0_2, .int .i64 a0_3]) (t := 30) ?hr ?_; (case hd => rfl); (case hg => rfl); (case hr => first | (go_simp; done) | (go_simp; rfl)); intro gm hg wm hbox hb; have HB' := Aside0.mk (below_step HB.out hb); have GEM := Aside0.mk (show w.heap.size ≤ gm by rw [hg]; exact below_size HB.out); clear HB; have HB := HB'; have BM := Aside0.mk hbox; clear HB' hb hg) | ((with_reducible refine gate_callee (f := 7) rfl ?_); refine goesL_ (some 16) rfl rfl Try.func7 (by kernel_rfl) rfl #[] rfl (by (try simp only [List.map_toArray, List.map_cons, List.map_nil]); first | done | rfl) ?_; (with_reducible refine (palingslaw18_head.calls k true _ hhead).mono ?_); rintro e wh ⟨rfl, hb⟩; refine ⟨_, rfl, ?_⟩; have HB' := Aside0.mk (below_step HB.out hb); have BM' := Aside0.mk (blk_below BM.out hb); clear HB BM; have HB := HB'; have BM := BM'; clear HB' BM' hb; obtain ⟨hm0, hm1, hm2, hm3⟩ := box4 BM.out) | ((with_reducible refine gate_callee (f := 9) rfl ?_); refine goesL_ (some 19) rfl rfl Try.func9 (by kernel_rfl) rfl #[.agg #[.slice A0_0 l0_0.length c0_0, .slice A0_1 l0_1.length c0_1, .int .i64 a0_2, .int .i64 a0_3]] rfl (by (try simp only [List.map_toArray, List.map_cons, List.map_nil]); first | done | rfl) ?_; (with_reducible refine (palingslaw18_few.calls _ _ l0_0 _ _ l0_1 a0_2 a0_3 true _ (Kd.C_below hr0_0 HB.out) hc0_0 (Kd.C_below hr0_1 HB.out) hc0_1 hfew).mono ?_); rintro e wf ⟨rfl, hb⟩; refine ⟨_, rfl, ?_⟩; have HB' := Aside0.mk (below_step HB.out hb); have BM' := Aside0.mk (blk_below BM.out hb); clear HB BM; have HB := HB'; have BM := BM'; clear HB' BM' hb; obtain ⟨hm0, hm1, hm2, hm3⟩ := box4 BM.out) | ((with_reducible refine gate_callee (f := 16) rfl ?_); refine goesL_ (some 27) rfl rfl Try.func16 (by kernel_rfl) rfl #[.agg #[.slice A0_0 l0_0.length c0_0, .slice A0_1 l0_1.length c0_1, .int .i64 a0_2, .int .i64 a0_3]] rfl (by (try simp only [List.map_toArray, List.map_cons, List.map_nil]); first | done | rfl) ?_; (with_reducible refine (image_Encode.calls k _ _ l0_0 _ _ l0_1 a0_2 a0_3 b e_ _ (Kd.C_below hr0_0 HB.out) hc0_0 (Kd.C_below hr0_1 HB.out) hc0_1 henc).mono ?_); rintro e we ⟨vb, rfl, hob, hb⟩; refine ⟨_, rfl, ?_⟩; have HB' := Aside0.mk (below_step HB.out hb); have BM' := Aside0.mk (blk_below BM.out hb); clear HB BM; have HB := HB'; have BM := BM'; clear HB' BM' hb hm0 hm1 hm2 hm3; have HRB := Aside0.mk hob; clear hob; obtain ⟨Ab, cb, eb⟩ := Kd.R_slice HRB.out; subst eb))
  go_ret
  exact ⟨rfl, HB.out⟩

theorem i64_low16 (n : Int) : Go.bits .and .i64 n 65535 = n % 65536 := by
  have h127 : (BitVec.ofInt 64 65535).toNat = 2 ^ 16 - 1 := by decide
  have key : (BitVec.ofInt 64 n &&& BitVec.ofInt 64 65535).toNat = (n % ((2 ^ 64 : Nat) : Int)).toNat % 2 ^ 16 := by
    rw [BitVec.toNat_and, BitVec.toNat_ofInt, h127, Nat.and_two_pow_sub_one_eq_mod]
  show IntKind.i64.wrap ((BitVec.ofInt 64 n &&& BitVec.ofInt 64 65535).toNat : Nat) = n % 65536
  rw [key, IntKind.wrap_i64]
  omega
theorem two_or (e : Int) (P Q R S : Prop) (h : e = 0 ∨ (e = 2 ∧ P ∧ Q ∧ R ∧ S)) (h0 : e ≠ 0) : e = 2 := by
  rcases h with h | h
  · exact absurd h h0
  · exact h.1
theorem cuts_all (A0 : Option Addr) (c0 : Nat) (C : List S26) (A1 : Option Addr) (c1 : Nat) (A : List S33) (st mem a1 a2 : Int) (w : World) (hC : Kd.C k26 w A0 C.length C) (hc0 : C.length ≤ c0) (hA : Kd.C k33 w A1 A.length A) (hc1 : A.length ≤ c1) (h0 : 0 ≤ a2) (h1 : a2 < 256) :
    Calls Try.prog 6 #[.agg #[.slice A0 C.length c0, .slice A1 A.length c1, .int .i64 st, .int .i64 mem], .int .i64 a1, .int .u8 a2] w fun e w' => e = .returned (.bool true) ∧ Below w.heap.size w w' := by
  have hh := head_k 5000 (by decide)
  obtain ⟨t, ht, hfew⟩ := few_total C A st mem
  cases t with
  | false => exact cuts_few 5000 A0 c0 C A1 c1 A st mem a1 a2 w hC hc0 hA hc1 hh ht
  | true =>
    obtain ⟨g0, g1⟩ := hfew rfl
    by_cases ha2 : a2 = 0
    · exact cuts_bits 5000 A0 c0 C A1 c1 A st mem a1 a2 w hC hc0 hA hc1 hh ht ha2
    · obtain ⟨b, e, henc, hb⟩ := enc_total C A st mem (by omega) (by omega) 5000 (by decide)
      by_cases he : e = 0
      · subst he
        obtain rfl := hb rfl
        have hlen := encI_len C A st mem
        have hby := encI_bytes C A st mem
        obtain ⟨b, hbe⟩ : ∃ b, encI C A st mem = b := ⟨_, rfl⟩
        rw [hbe] at hlen hby henc
        have hm0 : 0 ≤ Go.bits .and .i64 a1 65535 := by rw [i64_low16]; omega
        obtain ⟨a, ha⟩ : ∃ a : Nat, Int.tmod (Go.bits .and .i64 a1 65535) (b.length : Int) = a ∧ a < b.length := by
          have h2 := Int.emod_nonneg (Go.bits .and .i64 a1 65535) (show (b.length : Int) ≠ 0 by omega)
          have h3 := Int.emod_lt_of_pos (Go.bits .and .i64 a1 65535) (show (0 : Int) < (b.length : Int) by omega)
          rw [Int.tmod_eq_emod_of_nonneg hm0]
          exact ⟨(Go.bits .and .i64 a1 65535 % (b.length : Int)).toNat, by omega, by omega⟩
        obtain ⟨ha, hal⟩ := ha
        have hrd : rd b (a : Int) = b[a] := by unfold rd; rw [Int.toNat_natCast, List.getD_eq_getElem?_getD, List.getElem?_eq_getElem hal]; rfl
        have hba := hby b[a] (List.getElem_mem hal)
        obtain ⟨x1, x2, x3⟩ := xor_turns b[a] a2 hba.1 hba.2 h0 h1 ha2
        have hcl : (b.set a (Go.bits .xor .u8 b[a] a2)).length = b.length := List.length_set
        have hcb : Bytes (b.set a (Go.bits .xor .u8 b[a] a2)) := fun x hx => by
          rcases List.mem_or_eq_of_mem_set hx with hx | rfl
          · exact hby x hx
          · exact ⟨x2, x3⟩
        have hcne : b.set a (Go.bits .xor .u8 b[a] a2) ≠ b := fun h => by
          have h2 : (b.set a (Go.bits .xor .u8 b[a] a2))[a]? = b[a]? := by rw [h]
          rw [List.getElem?_set_self hal, List.getElem?_eq_getElem hal] at h2
          exact x1 (Option.some.inj h2)
        obtain ⟨X0, X1, X2, X3, X4, k1, k2, k3⟩ := dec_total (b.set a (Go.bits .xor .u8 b[a] a2)) hcb (by omega) 5000 (by decide)
        obtain ⟨Y0, Y1, Y2, Y3, Y4, m1, m2, m3⟩ := dec_total (b ++ [0]) (fun x hx => by
          rcases List.mem_append.mp hx with hx | hx
          · exact hby x hx
          · rw [List.mem_singleton.mp hx]; decide) (by rw [List.length_append, List.length_singleton]; omega) 5000 (by decide)
        obtain ⟨Z0, Z1, Z2, Z3, Z4, n1, n2, n3⟩ := dec_total (b.take (b.length - 1)) (fun x hx => hby x (List.mem_of_mem_take hx)) (by rw [List.length_take]; omega) 5000 (by decide)
        have hY : Y4 = 2 := two_or _ _ _ _ _ m2 (fun h => by
          obtain ⟨e1, e2, e3, _⟩ := m3 h
          rw [← hbe] at e1
          have := encI_prefix (t := [0]) (t' := []) (by omega) (by omega) (by omega) (by omega) (e1.trans (List.append_nil _).symm)
          cases this)
        have hZ : Z4 = 2 := two_or _ _ _ _ _ n2 (fun h => by
          obtain ⟨e1, e2, e3, _⟩ := n3 h
          have e4 : encI Z0 Z1 Z2 Z3 ++ b.drop (b.length - 1) = encI C A st mem ++ [] := by rw [← e1, List.take_append_drop, List.append_nil, hbe]
          have := congrArg List.length (encI_prefix (by omega) (by omega) (by omega) (by omega) e4)
          rw [List.length_drop] at this
          simp only [List.length_nil] at this
          omega)
        subst hY
        subst hZ
        have hX : X4 = 2 ∨ palingslaw18_same.f 5000 X0 X1 X2 X3 C A st mem = some false := by
          rcases k2 with k2 | k2
          · obtain ⟨e1, e2, e3, _⟩ := k3 k2
            have e4 := congrArg List.length e1
            rw [encI_len, hcl] at e4
            obtain ⟨t, p1, p2⟩ := same_total X0 C X1 A X2 X3 st mem (by omega) (by omega) 5000 (by omega)
            cases t with
            | false => exact .inr p1
            | true =>
              obtain ⟨rfl, rfl, rfl, rfl⟩ := p2 rfl
              exact absurd (e1.trans hbe) hcne
          · exact .inl k2.1
        rw [← hrd] at k1
        exact cuts_main 5000 A0 c0 C A1 c1 A st mem a1 a2 w hC hc0 hA hc1 hh ht ha2 b henc (by omega) (by omega) (a : Int) ha (by omega) (by omega) X0 X1 X2 X3 X4 (by rw [Int.toNat_natCast]; exact k1) hX Y0 Y1 Y2 Y3 m1 Z0 Z1 Z2 Z3 n1
      · exact cuts_none 5000 A0 c0 C A1 c1 A st mem a1 a2 w hC hc0 hA hc1 hh ht ha2 b e he henc
theorem cuts_walk {H : Type} {enc : TypeId × Value → H} {d : DataW H} {p : List MemPlace} (v : Value) (a1 a2 : Int) (W : World) (h : Arg enc Try.prog W 30 v d p) (h1 : (Lit.int .i64 a1).wf = true) (h2 : (Lit.int .u8 a2).wf = true) :
    Calls Try.prog 6 #[v, .int .i64 a1, .int .u8 a2] W fun e w' => e = .returned (.bool true) ∧ Below W.heap.size W w' := by
  obtain ⟨A0, c0, C, A1, c1, A, st, mem, rfl, g0, g1, hC, hA, _⟩ := open_img h
  have hb := u8_bounds h2
  exact cuts_all A0 c0 C A1 c1 A st mem a1 a2 W hC g0 hA g1 hb.1 hb.2
end Go.Proofs.Yteabbcnoamhofaa.B
