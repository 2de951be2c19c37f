/- The walk of ImageCuts, where the image has bytes. -/
import Derived.Test.YteabbcnoamhofaaDecode
import Derived.Test.YteabbcnoamhofaaBx6
import Derived.Test.YteabbcnoamhofaaBx8
namespace Go.Proofs.Yteabbcnoamhofaa.B
open Go.RowKit Go.Proofs.Yteabbcnoamhofaa.Mine Go.Proofs.YteabbcnoamhofaaW.PrintWords Go.Proofs.YteabbcnoamhofaaW.PrintLast Go.Proofs.YteabbcnoamhofaaW.PrintMore
set_option linter.unusedVariables false
set_option linter.unusedSimpArgs false

theorem wp_gen {P : Program} {c : Code} {Q : Exit → Act → World → Prop} {a : Act} {W : World} (S : World → Prop) (hS : S W) (h : ∀ W', S W' → c.wp P Q a W') : c.wp P Q a W := h W hS
theorem reps_nums {k : IntKind} {w : World} {base : Nat} {ok : Nat → Prop} : ∀ {xs : List Int} {inner : List Value}, Reps ((Kd.int k).M w base ok) 1 xs inner → inner = nums k xs := by
  intro xs inner h
  refine List.ext_getElem (by rw [h.1, nums_length, Nat.mul_one]) fun j h1 h2 => ?_
  have hj : j < xs.length := by rw [nums_length] at h2; exact h2
  have h3 := h.2 j xs[j] (List.getElem?_eq_getElem hj)
  rw [Nat.mul_one] at h3
  have h4 : (inner.drop j).take 1 = [Value.int k xs[j]] := h3
  have h5 : ((inner.drop j).take 1)[0]? = some (Value.int k xs[j]) := by rw [h4]; rfl
  rw [List.getElem?_take, if_pos (by decide), List.getElem?_drop, Nat.add_zero, List.getElem?_eq_getElem h1] at h5
  rw [Option.some.inj h5]
  simp [nums]
theorem R_nums {k : IntKind} {e : Nat} {w : World} {base : Nat} {ok : Nat → Prop} {v : Value} {xs : List Int} (h : (Kd.int k).R e w base ok v xs) : w.ownsRow base e 1 v xs.length (nums k xs) := by
  obtain ⟨_, inner, ho, hr⟩ := h
  rw [← reps_nums hr]
  exact ho
theorem box4 {W : World} {g t : Nat} {a b c d : Value} (h : W.heap[g]? = some (.cells #[a, b, c, d] t (0, 0))) : W.cell? ⟨g, 0, none⟩ = some a ∧ W.cell? ⟨g, 1, none⟩ = some b ∧ W.cell? ⟨g, 2, none⟩ = some c ∧ W.cell? ⟨g, 3, none⟩ = some d :=
  ⟨(blk_cell h 0).trans rfl, (blk_cell h 1).trans rfl, (blk_cell h 2).trans rfl, (blk_cell h 3).trans rfl⟩
/-- What stands at a world: the image's box, the bytes, nothing elder turned. -/
structure SX (w W : World) (gm : Nat) (cm : Array Value) (Ab : Option Addr) (b : List Int) : Prop where
  m : W.heap[gm]? = some (.cells cm 30 (0, 0))
  B : Below w.heap.size w W
  b : Kd.C (Kd.int .u8) W Ab b.length b
theorem SX.next {w W W' : World} {gm : Nat} {cm : Array Value} {Ab : Option Addr} {b : List Int} (h : SX w W gm cm Ab b) (hb : Below W.heap.size W W') : SX w W' gm cm Ab b :=
  ⟨blk_below h.m hb, below_step h.B hb, Kd.C_below h.b hb⟩
/-- The same, and an image that was read. -/
structure TX (w W : World) (gm : Nat) (cm : Array Value) (Ab : Option Addr) (b : List Int) (gx : Nat) (Ax0 : Option Addr) (cx0 : Nat) (x0 : List S26) (Ax1 : Option Addr) (cx1 : Nat) (x1 : List S33) (x2 x3 : Int) : Prop where
  s : SX w W gm cm Ab b
  x : W.heap[gx]? = some (.cells #[.slice Ax0 x0.length cx0, .slice Ax1 x1.length cx1, .int .i64 x2, .int .i64 x3] 30 (0, 0))
  c0 : Kd.C k26 W Ax0 x0.length x0
  l0 : x0.length ≤ cx0
  c1 : Kd.C k33 W Ax1 x1.length x1
  l1 : x1.length ≤ cx1
theorem TX.next {w W W' : World} {gm : Nat} {cm : Array Value} {Ab : Option Addr} {b : List Int} {gx : Nat} {Ax0 : Option Addr} {cx0 : Nat} {x0 : List S26} {Ax1 : Option Addr} {cx1 : Nat} {x1 : List S33} {x2 x3 : Int} (h : TX w W gm cm Ab b gx Ax0 cx0 x0 Ax1 cx1 x1 x2 x3) (hb : Below W.heap.size W W') : TX w W' gm cm Ab b gx Ax0 cx0 x0 Ax1 cx1 x1 x2 x3 :=
  ⟨h.s.next hb, blk_below h.x hb, Kd.C_below h.c0 hb, h.l0, Kd.C_below h.c1 hb, h.l1⟩
theorem C_of_reads' {w : World} {A : Option Addr} {n : Nat} {xs : List Int} (h : ReadsInt w .u8 A n xs) : Kd.C (Kd.int .u8) w A n xs := Kd.C_of_reads (enc := Value.int .u8) (d := 0) (h1 := fun _ => rfl) h
set_option maxRecDepth 100000 in
set_option maxHeartbeats 4000000 in
theorem cuts_main (k : Nat) (A0_0 : Option Addr) (c0_0 : Nat) (l0_0 : List (S26)) (A0_1 : Option Addr) (c0_1 : Nat) (l0_1 : List (S33)) (a0_2 : Int) (a0_3 : Int) (a1 : Int) (a2 : Int) (w : World) (hr0_0 : Kd.C k26 w A0_0 l0_0.length l0_0) (hc0_0 : l0_0.length ≤ c0_0) (hr0_1 : Kd.C k33 w A0_1 l0_1.length l0_1) (hc0_1 : l0_1.length ≤ c0_1)
    (hhead : palingslaw18_head.f k = some true) (hfew : palingslaw18_few.f l0_0 l0_1 a0_2 a0_3 = some true) (ha2 : a2 ≠ 0) (b : List Int) (henc : image_Encode.f k l0_0 l0_1 a0_2 a0_3 = some (b, 0)) (hb0 : 0 < b.length) (hbl : b.length < 100000)
    (at_ : Int) (hat_ : Int.tmod (Go.bits .and .i64 a1 65535) (b.length : Int) = at_) (hat0 : 0 ≤ at_) (hat1 : at_ < b.length)
    (x0 : List S26) (x1 : List S33) (x2 x3 x4 : Int) (hx : image_Decode.f k (b.set at_.toNat (Go.bits .xor .u8 (rd b at_) a2)) = some (x0, x1, x2, x3, x4)) (hx4 : x4 = 2 ∨ palingslaw18_same.f k x0 x1 x2 x3 l0_0 l0_1 a0_2 a0_3 = some false)
    (y0 : List S26) (y1 : List S33) (y2 y3 : Int) (hy : image_Decode.f k (b ++ [0]) = some (y0, y1, y2, y3, 2))
    (z0 : List S26) (z1 : List S33) (z2 z3 : Int) (hz : image_Decode.f k (b.take (b.length - 1)) = some (z0, z1, z2, z3, 2)) :
    Calls Try.prog 6 #[.agg #[.slice A0_0 l0_0.length c0_0, .slice A0_1 l0_1.length c0_1, .int .i64 a0_2, .int .i64 a0_3], .int .i64 a1, .int .u8 a2] w fun e w' => e = .returned (.bool true) ∧ Below w.heap.size w w' := by
  have hu30 := Try.underlying30
  have HB := Aside0.mk (Below.refl w.heap.size w)
  have ha2b : (a2 == 0) = false := beq_eq_false_iff_ne.mpr ha2
  have hlen0 : ((b.length : Int) == 0) = false := beq_eq_false_iff_ne.mpr (by omega)
  have hlen1 : ¬ (b = []) := fun h_ => by rw [h_] at hb0; exact absurd hb0 (by decide)
  go_enter Try.func6, Try.ntmps6
  go_upto_region 9 with (first | ((with_reducible refine gate_dst (N := 3) rfl ?_); refine box_event ?hg (N := 3) ?hd (cs := #[.slice A0_0 l0_0.length c0_0, .slice A0_1 l0_1.length c0_1, .int .i64 a0_2, .int .i64 a0_3]) (t := 30) ?hr ?_; (case hd => rfl); (case hg => rfl); (case hr => first | (go_simp; done) | (go_simp; rfl)); intro gm hg wm hbox hb; have HB' := Aside0.mk (below_step HB.out hb); have GEM := Aside0.mk (show w.heap.size ≤ gm by rw [hg]; exact below_size HB.out); clear HB; have HB := HB'; have BM := Aside0.mk hbox; clear HB' hb hg) | ((with_reducible refine gate_callee (f := 7) rfl ?_); refine goesL_ (some 16) rfl rfl Try.func7 (by kernel_rfl) rfl #[] rfl (by (try simp only [List.map_toArray, List.map_cons, List.map_nil]); first | done | rfl) ?_; (with_reducible refine (palingslaw18_head.calls k true _ hhead).mono ?_); rintro e wh ⟨rfl, hb⟩; refine ⟨_, rfl, ?_⟩; have HB' := Aside0.mk (below_step HB.out hb); have BM' := Aside0.mk (blk_below BM.out hb); clear HB BM; have HB := HB'; have BM := BM'; clear HB' BM' hb; obtain ⟨hm0, hm1, hm2, hm3⟩ := box4 BM.out) | ((with_reducible refine gate_callee (f := 9) rfl ?_); refine goesL_ (some 19) rfl rfl Try.func9 (by kernel_rfl) rfl #[.agg #[.slice A0_0 l0_0.length c0_0, .slice A0_1 l0_1.length c0_1, .int .i64 a0_2, .int .i64 a0_3]] rfl (by (try simp only [List.map_toArray, List.map_cons, List.map_nil]); first | done | rfl) ?_; (with_reducible refine (palingslaw18_few.calls _ _ l0_0 _ _ l0_1 a0_2 a0_3 true _ (Kd.C_below hr0_0 HB.out) hc0_0 (Kd.C_below hr0_1 HB.out) hc0_1 hfew).mono ?_); rintro e wf ⟨rfl, hb⟩; refine ⟨_, rfl, ?_⟩; have HB' := Aside0.mk (below_step HB.out hb); have BM' := Aside0.mk (blk_below BM.out hb); clear HB BM; have HB := HB'; have BM := BM'; clear HB' BM' hb; obtain ⟨hm0, hm1, hm2, hm3⟩ := box4 BM.out) | ((with_reducible refine gate_callee (f := 16) rfl ?_); refine goesL_ (some 27) rfl rfl Try.func16 (by kernel_rfl) rfl #[.agg #[.slice A0_0 l0_0.length c0_0, .slice A0_1 l0_1.length c0_1, .int .i64 a0_2, .int .i64 a0_3]] rfl (by (try simp only [List.map_toArray, List.map_cons, List.map_nil]); first | done | rfl) ?_; (with_reducible refine (image_Encode.calls k _ _ l0_0 _ _ l0_1 a0_2 a0_3 b 0 _ (Kd.C_below hr0_0 HB.out) hc0_0 (Kd.C_below hr0_1 HB.out) hc0_1 henc).mono ?_); rintro e we ⟨vb, rfl, hob, hb⟩; refine ⟨_, rfl, ?_⟩; have HB' := Aside0.mk (below_step HB.out hb); have BM' := Aside0.mk (blk_below BM.out hb); clear HB BM; have HB := HB'; have BM := BM'; clear HB' BM' hb hm0 hm1 hm2 hm3; have HRB := Aside0.mk hob; clear hob; obtain ⟨Ab, cb, eb⟩ := Kd.R_slice HRB.out; subst eb))
  obtain ⟨_, hcb, hCb⟩ := Kd.R_reads' HRB.out
  refine wp_gen (fun W => SX w W gm #[.slice A0_0 l0_0.length c0_0, .slice A0_1 l0_1.length c0_1, .int .i64 a0_2, .int .i64 a0_3] Ab b) ⟨BM.out, HB.out, hCb⟩ (fun W1 HX => ?_)
  clear HB BM HRB hCb
  have HB := Aside0.mk (Below.refl W1.heap.size W1)
  go_upto_region 10 with (first | ((with_reducible refine gate_dst (N := 37) rfl ?_); refine Kd.R_lit (Kd.int .u8) _ 5 ?hg (N := 37) ?hd (xs := ([] : List Int)) (inner := []) (ok := fun _ => True) (okp := fun _ => True) ?hr ?hp (fun _ hk => hk) trivial (Below.refl _ _) (Nat.le_refl _) (by simp) ?_; (case hd => rfl); (case hg => rfl); (case hr => first | (go_simp; done) | (go_simp; rfl)); (case hp => exact (Reps.none _ _)); intro vl wl hol hb hg_ hnew_; clear hg_ hnew_; have HOL := Aside0.mk (Kd.R_lower hol (below_size HB.out)); have HB' := Aside0.mk (below_step HB.out hb); clear HB hol hb; have HB := HB'; clear HB') | ((with_reducible refine gate_builtin (b := .append) (xs := #[.tmp 37, .tmp 38]) rfl ?_); at_builtin; refine Kd.R_append_rows (Kd.int .u8) (w0 := W1) W1.heap.size rfl (.tmp 37) (.tmp 38) 41 5 (.int .u8 0) 1 rfl Try.underlying41 info5 rfl (by decide) (by omega) vl [] b _ _ _ (fun _ => True) (fun _ => False) rfl rfl ?aO ?aR (fun _ _ h => h) (fun _ h => h.elim) ?aF ?aB ?aS ?aL ?_; (case aR => exact Kd.C_below HX.b HB.out); (case aB => exact HB.out); (case aF => exact (fun _ _ => trivial)); (case aO => exact HOL.out); (case aS => exact below_size HB.out); (case aL => simp only [List.length_nil]; omega); intro vc wr hor hb hg hat; clear HB HOL hg hat; have HB := Aside0.mk hb; have HC := Aside0.mk hor; clear hb hor))
  have HOR : Kd.R (Kd.int .u8) 5 wr W1.heap.size (fun _ => True) vc b := HC.out
  obtain ⟨gc, cc, evc, hgb, hgl⟩ := (R_nums HOR).form (by omega)
  subst evc
  obtain ⟨hcell, hfro⟩ := own_at (R_nums HOR) at_ hat0 (by omega)
  have hcc := (Kd.R_reads' HOR).2.1
  have hq1 : decide (at_ < (b.length : Int)) = true := decide_eq_true hat1
  have hq2 : decide (0 ≤ at_) = true := decide_eq_true hat0
  have hq3 : (at_ < (b.length : Int)) = True := eq_true hat1
  have hq4 : (0 ≤ at_) = True := eq_true hat0
  go_upto_region 11 with (fail)
  have hst := own_reads' (own_store (R_nums HOR) at_ (Go.bits .xor .u8 (rd b at_) a2)).1
  obtain ⟨c', hc'⟩ : ∃ c', b.set at_.toNat (Go.bits .xor .u8 (rd b at_) a2) = c' := ⟨_, rfl⟩
  have hcl : c'.length = b.length := by rw [← hc', List.length_set]
  rw [hc'] at hst hx
  rw [← hcl] at hst hcc
  rw [← hcl]
  refine wp_gen (fun W => SX w W gm #[.slice A0_0 l0_0.length c0_0, .slice A0_1 l0_1.length c0_1, .int .i64 a0_2, .int .i64 a0_3] Ab b ∧ Kd.C (Kd.int .u8) W (some ⟨gc, 0, none⟩) c'.length c') ⟨SX.next HX (below_set HB.out hgb), C_of_reads' hst⟩ (fun W2 HX2 => ?_)
  clear HB HC HOR HX hcell hfro hst hgl hgb
  obtain ⟨HX, hCc⟩ := HX2
  have HB := Aside0.mk (Below.refl W2.heap.size W2)
  go_upto_region 12 with (first | ((with_reducible refine gate_callee (f := 13) rfl ?_); refine goesL_ (some 49) rfl rfl Try.func13 (by kernel_rfl) rfl #[.slice (some ⟨gc, 0, none⟩) c'.length cc] rfl (by (try simp only [List.map_toArray, List.map_cons, List.map_nil]); first | done | rfl | (simp only [List.length_drop, List.length_take]; rfl)) ?_; (with_reducible refine (image_Decode.calls k _ _ c' x0 x1 x2 x3 x4 _ (Kd.C_below hCc HB.out) hcc hx).mono ?_); rintro e wd ⟨vx0, vx1, rfl, hd0, hd1, hb⟩; refine ⟨_, rfl, ?_⟩; have HD0 := Aside0.mk hd0; have HD1 := Aside0.mk hd1; have HB' := Aside0.mk (below_step HB.out hb); clear HB hd0 hd1; have HB := HB'; clear HB'; clear hb; obtain ⟨Ax0, cx0, ex0⟩ := Kd.R_slice HD0.out; subst ex0; obtain ⟨Ax1, cx1, ex1⟩ := Kd.R_slice HD1.out; subst ex1) | ((with_reducible refine gate_dst (N := 10) rfl ?_); refine box_event ?hg (N := 10) ?hd (cs := #[.slice none 0 0, .slice none 0 0, .int .i64 0, .int .i64 0]) (t := 30) ?hr ?_; (case hd => rfl); (case hg => rfl); (case hr => first | (go_simp; done) | (go_simp; rfl)); intro gx hg wx hbox hb; have GEX := Aside0.mk (show W2.heap.size ≤ gx by rw [hg]; exact below_size HB.out); have HD0' := Aside0.mk (Kd.R_below HD0.out hb); have HD1' := Aside0.mk (Kd.R_below HD1.out hb); clear HD0 HD1; have HD0 := HD0'; have HD1 := HD1'; clear HD0' HD1'; have HB' := Aside0.mk (below_step HB.out hb); clear HB; have HB := HB'; have BX := Aside0.mk hbox; clear HB' hb hbox hg; obtain ⟨hb0_, hb1_, hb2_, hb3_⟩ := box4 BX.out; have hfx0 := blk_frozen BX.out 0; have hfx1 := blk_frozen BX.out 1; have hfx2 := blk_frozen BX.out 2; have hfx3 := blk_frozen BX.out 3))
  refine wp_gen (fun W => TX w W gm #[.slice A0_0 l0_0.length c0_0, .slice A0_1 l0_1.length c0_1, .int .i64 a0_2, .int .i64 a0_3] Ab b gx Ax0 cx0 x0 Ax1 cx1 x1 x2 x3) ⟨SX.next HX (below_set (below_set (below_set (below_set HB.out GEX.out) GEX.out) GEX.out) GEX.out), (blk_put (cs := #[.slice Ax0 x0.length cx0, .slice Ax1 x1.length cx1, .int .i64 x2, .int .i64 0]) (blk_put (cs := #[.slice Ax0 x0.length cx0, .slice Ax1 x1.length cx1, .int .i64 0, .int .i64 0]) (blk_put (cs := #[.slice Ax0 x0.length cx0, .slice none 0 0, .int .i64 0, .int .i64 0]) (blk_put (cs := #[.slice none 0 0, .slice none 0 0, .int .i64 0, .int .i64 0]) BX.out 0 _ rfl) 1 _ rfl) 2 _ rfl) 3 _ rfl), (Kd.R_reads' (Kd.R_far (p := ⟨gx, 3, none⟩) (Kd.R_far (p := ⟨gx, 2, none⟩) (Kd.R_far (p := ⟨gx, 1, none⟩) (Kd.R_far (p := ⟨gx, 0, none⟩) (Kd.R_types HD0.out BX.out (by decide)) (fun _ hk => hk.2) (.slice Ax0 x0.length cx0)) (fun _ hk => hk.2) (.slice Ax1 x1.length cx1)) (fun _ hk => hk.2) (.int .i64 x2)) (fun _ hk => hk.2) (.int .i64 x3))).2.2, (Kd.R_reads' (Kd.R_far (p := ⟨gx, 3, none⟩) (Kd.R_far (p := ⟨gx, 2, none⟩) (Kd.R_far (p := ⟨gx, 1, none⟩) (Kd.R_far (p := ⟨gx, 0, none⟩) (Kd.R_types HD0.out BX.out (by decide)) (fun _ hk => hk.2) (.slice Ax0 x0.length cx0)) (fun _ hk => hk.2) (.slice Ax1 x1.length cx1)) (fun _ hk => hk.2) (.int .i64 x2)) (fun _ hk => hk.2) (.int .i64 x3))).2.1, (Kd.R_reads' (Kd.R_far (p := ⟨gx, 3, none⟩) (Kd.R_far (p := ⟨gx, 2, none⟩) (Kd.R_far (p := ⟨gx, 1, none⟩) (Kd.R_far (p := ⟨gx, 0, none⟩) (Kd.R_types HD1.out BX.out (by decide)) (fun _ hk => hk.2) (.slice Ax0 x0.length cx0)) (fun _ hk => hk.2) (.slice Ax1 x1.length cx1)) (fun _ hk => hk.2) (.int .i64 x2)) (fun _ hk => hk.2) (.int .i64 x3))).2.2, (Kd.R_reads' (Kd.R_far (p := ⟨gx, 3, none⟩) (Kd.R_far (p := ⟨gx, 2, none⟩) (Kd.R_far (p := ⟨gx, 1, none⟩) (Kd.R_far (p := ⟨gx, 0, none⟩) (Kd.R_types HD1.out BX.out (by decide)) (fun _ hk => hk.2) (.slice Ax0 x0.length cx0)) (fun _ hk => hk.2) (.slice Ax1 x1.length cx1)) (fun _ hk => hk.2) (.int .i64 x2)) (fun _ hk => hk.2) (.int .i64 x3))).2.1⟩ (fun W3 HT => ?_)
  clear HB HD0 HD1 BX hb0_ hb1_ hb2_ hb3_ hfx0 hfx1 hfx2 hfx3 GEX HX hCc
  have HX := HT.s
  have HB := Aside0.mk (Below.refl W3.heap.size W3)
  go_upto_region 13 with (first | ((with_reducible refine gate_dst (N := 53) rfl ?_); refine Kd.R_lit (Kd.int .u8) _ 5 ?hg (N := 53) ?hd (xs := ([] : List Int)) (inner := []) (ok := fun _ => True) (okp := fun _ => True) ?hr ?hp (fun _ hk => hk) trivial (Below.refl _ _) (Nat.le_refl _) (by simp) ?_; (case hd => rfl); (case hg => rfl); (case hr => first | (go_simp; done) | (go_simp; rfl)); (case hp => exact (Reps.none _ _)); intro vl wl hol hb hg_ hnew_; clear hg_ hnew_; have HOL := Aside0.mk (Kd.R_lower hol (below_size HB.out)); have HB' := Aside0.mk (below_step HB.out hb); clear HB hol hb; have HB := HB'; clear HB') | ((with_reducible refine gate_builtin (b := .append) (xs := #[.tmp 53, .tmp 54]) rfl ?_); at_builtin; refine Kd.R_append_rows (Kd.int .u8) (w0 := W3) W3.heap.size rfl (.tmp 53) (.tmp 54) 41 5 (.int .u8 0) 1 rfl Try.underlying41 info5 rfl (by decide) (by omega) vl [] b _ _ _ (fun _ => True) (fun _ => False) rfl rfl ?aO ?aR (fun _ _ h => h) (fun _ h => h.elim) ?aF ?aB ?aS ?aL ?_; (case aR => exact Kd.C_below HX.b HB.out); (case aB => exact HB.out); (case aF => exact (fun _ _ => trivial)); (case aO => exact HOL.out); (case aS => exact below_size HB.out); (case aL => simp only [List.length_nil]; omega); intro vc wr hor hb hg hat; clear HB HOL hg hat; have HB := Aside0.mk hb; have HC := Aside0.mk hor; clear hb hor) | ((with_reducible refine gate_builtin (b := .append) (xs := #[.tmp 55, .tmp 56]) rfl ?_); at_builtin; refine Kd.R_append (Kd.int .u8) (w0 := W3) W3.heap.size rfl (.tmp 55) (.tmp 56) 41 5 (.int .u8 0) 1 rfl Try.underlying41 info5 rfl (by decide) (by omega) vc ([] ++ b) 0 [.int .u8 0] (fun _ => True) (fun _ => False) rfl rfl ?aP (fun _ hk => hk.elim) ?aF ?aO ?aB ?aS ?aL ?_; (case aP => exact rfl); (case aB => exact HB.out); (case aF => exact (fun _ _ => trivial)); (case aO => exact HC.out); (case aS => exact below_size HB.out); (case aL => simp only [List.nil_append]; omega); intro vo wo hor hb hg hat; clear HB HC hg hat; have HB := Aside0.mk hb; have HO := Aside0.mk hor; clear hb hor; obtain ⟨Ao, co, eo⟩ := Kd.R_slice HO.out; subst eo) | ((with_reducible refine gate_callee (f := 13) rfl ?_); refine goesL_ (some 58) rfl rfl Try.func13 (by kernel_rfl) rfl #[.slice Ao (b ++ [0]).length co] rfl (by (try simp only [List.map_toArray, List.map_cons, List.map_nil]); first | done | rfl | (simp only [List.length_drop, List.length_take]; rfl)) ?_; (with_reducible refine (image_Decode.calls k _ _ (b ++ [0]) y0 y1 y2 y3 2 _ (Kd.R_reads' HO.out).2.2 (Kd.R_reads' HO.out).2.1 hy).mono ?_); rintro e wd ⟨vy0, vy1, rfl, hd0, hd1, hb⟩; refine ⟨_, rfl, ?_⟩; have HD0 := Aside0.mk hd0; have HD1 := Aside0.mk hd1; have HB' := Aside0.mk (below_step HB.out hb); clear HB hd0 hd1; have HB := HB'; clear HB'; clear hb; clear HO; obtain ⟨Ay0, cy0, ey0⟩ := Kd.R_slice HD0.out; subst ey0; obtain ⟨Ay1, cy1, ey1⟩ := Kd.R_slice HD1.out; subst ey1) | ((with_reducible refine gate_dst (N := 12) rfl ?_); refine box_event ?hg (N := 12) ?hd (cs := #[.slice none 0 0, .slice none 0 0, .int .i64 0, .int .i64 0]) (t := 30) ?hr ?_; (case hd => rfl); (case hg => rfl); (case hr => first | (go_simp; done) | (go_simp; rfl)); intro gy hg wx hbox hb; have GEX := Aside0.mk (show W3.heap.size ≤ gy by rw [hg]; exact below_size HB.out); have HD0' := Aside0.mk (Kd.R_below HD0.out hb); have HD1' := Aside0.mk (Kd.R_below HD1.out hb); clear HD0 HD1; have HD0 := HD0'; have HD1 := HD1'; clear HD0' HD1'; have HB' := Aside0.mk (below_step HB.out hb); clear HB; have HB := HB'; have BX := Aside0.mk hbox; clear HB' hb hbox hg; obtain ⟨hb0_, hb1_, hb2_, hb3_⟩ := box4 BX.out; have hfx0 := blk_frozen BX.out 0; have hfx1 := blk_frozen BX.out 1; have hfx2 := blk_frozen BX.out 2; have hfx3 := blk_frozen BX.out 3))
  refine wp_gen (fun W => TX w W gm #[.slice A0_0 l0_0.length c0_0, .slice A0_1 l0_1.length c0_1, .int .i64 a0_2, .int .i64 a0_3] Ab b gx Ax0 cx0 x0 Ax1 cx1 x1 x2 x3) (HT.next (below_set (below_set (below_set (below_set HB.out GEX.out) GEX.out) GEX.out) GEX.out)) (fun W4 HT4 => ?_)
  clear HB HD0 HD1 BX hb0_ hb1_ hb2_ hb3_ hfx0 hfx1 hfx2 hfx3 GEX HX HT
  have HT := HT4
  have HX := HT.s
  have HB := Aside0.mk (Below.refl W4.heap.size W4)
  have hj0 : 0 ≤ (b.length : Int) - 1 := by omega
  have hj1 : (b.length : Int) - 1 ≤ (b.length : Int) := by omega
  have hj0t : (0 ≤ (b.length : Int) - 1) = True := eq_true hj0
  have hj1t : ((b.length : Int) - 1 ≤ (b.length : Int)) = True := eq_true hj1
  have hjw : wrap64 ((b.length : Int) - 1) = (b.length : Int) - 1 := by unfold wrap64; omega
  have hjn : ((b.length : Int) - 1).toNat = b.length - 1 := by omega
  obtain ⟨i0, hi0, _, hsz, _⟩ := info_parts info5
  obtain ⟨hcut, hA, hC⟩ := print_take_of (P := Try.prog) (Value.int .u8) 0 41 5 .i64 Try.underlying41 hi0 hsz Ab cb b ((b.length : Int) - 1) hj0 hj1 hcb
  rw [hjn] at hcut hA hC
  obtain ⟨zb, hzb⟩ : ∃ zb, b.take (b.length - 1) = zb := ⟨_, rfl⟩
  rw [hzb] at hcut hA hC hz
  have hCz : Kd.C (Kd.int .u8) W4 Ab zb.length zb := Kd.C_of_reads (h1 := fun _ => rfl) (hA _ (Kd.reads_of_C HX.b))
  go_upto_region 14 with (first | ((with_reducible refine gate_callee (f := 13) rfl ?_); refine goesL_ (some 67) rfl rfl Try.func13 (by kernel_rfl) rfl #[.slice Ab zb.length cb] rfl (by (try simp only [List.map_toArray, List.map_cons, List.map_nil]); first | done | rfl | (simp only [List.length_drop, List.length_take]; rfl)) ?_; (with_reducible refine (image_Decode.calls k _ _ zb z0 z1 z2 z3 2 _ (Kd.C_below hCz HB.out) hC hz).mono ?_); rintro e wd ⟨vz0, vz1, rfl, hd0, hd1, hb⟩; refine ⟨_, rfl, ?_⟩; have HD0 := Aside0.mk hd0; have HD1 := Aside0.mk hd1; have HB' := Aside0.mk (below_step HB.out hb); clear HB hd0 hd1; have HB := HB'; clear HB'; clear hb; obtain ⟨Az0, cz0, ez0⟩ := Kd.R_slice HD0.out; subst ez0; obtain ⟨Az1, cz1, ez1⟩ := Kd.R_slice HD1.out; subst ez1) | ((with_reducible refine gate_dst (N := 14) rfl ?_); refine box_event ?hg (N := 14) ?hd (cs := #[.slice none 0 0, .slice none 0 0, .int .i64 0, .int .i64 0]) (t := 30) ?hr ?_; (case hd => rfl); (case hg => rfl); (case hr => first | (go_simp; done) | (go_simp; rfl)); intro gz hg wx hbox hb; have GEX := Aside0.mk (show W4.heap.size ≤ gz by rw [hg]; exact below_size HB.out); have HD0' := Aside0.mk (Kd.R_below HD0.out hb); have HD1' := Aside0.mk (Kd.R_below HD1.out hb); clear HD0 HD1; have HD0 := HD0'; have HD1 := HD1'; clear HD0' HD1'; have HB' := Aside0.mk (below_step HB.out hb); clear HB; have HB := HB'; have BX := Aside0.mk hbox; clear HB' hb hbox hg; obtain ⟨hb0_, hb1_, hb2_, hb3_⟩ := box4 BX.out; have hfx0 := blk_frozen BX.out 0; have hfx1 := blk_frozen BX.out 1; have hfx2 := blk_frozen BX.out 2; have hfx3 := blk_frozen BX.out 3))
  refine wp_gen (fun W => TX w W gm #[.slice A0_0 l0_0.length c0_0, .slice A0_1 l0_1.length c0_1, .int .i64 a0_2, .int .i64 a0_3] Ab b gx Ax0 cx0 x0 Ax1 cx1 x1 x2 x3) (HT.next (below_set (below_set (below_set (below_set HB.out GEX.out) GEX.out) GEX.out) GEX.out)) (fun W5 HT5 => ?_)
  clear HB HD0 HD1 BX hb0_ hb1_ hb2_ hb3_ hfx0 hfx1 hfx2 hfx3 GEX HX HT hcut hA hC hCz
  have HX := HT5.s
  obtain ⟨hb0_, hb1_, hb2_, hb3_⟩ := box4 HT5.x
  obtain ⟨hm0, hm1, hm2, hm3⟩ := box4 HX.m
  rcases hx4 with rfl | hsame
  · go_wp2
    go_ret
    exact ⟨rfl, HX.B⟩
  · by_cases h2 : x4 = 2
    · subst h2
      go_wp2
      go_ret
      exact ⟨rfl, HX.B⟩
    · have h2b : (x4 == 2) = false := beq_eq_false_iff_ne.mpr h2
      go_wp2_with (first | ((with_reducible refine gate_callee (f := 14) rfl ?_); (try (refine gate_guard (by rfl) ?_; dsimp only)); refine goesL_ (some 75) rfl rfl Try.func14 (by kernel_rfl) rfl #[.agg #[.slice Ax0 x0.length cx0, .slice Ax1 x1.length cx1, .int .i64 x2, .int .i64 x3], .agg #[.slice A0_0 l0_0.length c0_0, .slice A0_1 l0_1.length c0_1, .int .i64 a0_2, .int .i64 a0_3]] rfl (by (try simp only [List.map_toArray, List.map_cons, List.map_nil]); first | done | rfl | (simp only [List.length_drop, List.length_take]; rfl)) ?_; (with_reducible refine (palingslaw18_same.calls k _ _ x0 _ _ x1 x2 x3 _ _ l0_0 _ _ l0_1 a0_2 a0_3 false _ HT5.c0 HT5.l0 HT5.c1 HT5.l1 (Kd.C_below hr0_0 HX.B) hc0_0 (Kd.C_below hr0_1 HX.B) hc0_1 hsame).mono ?_); rintro e wd ⟨rfl, hb⟩; refine ⟨_, rfl, ?_⟩; have HE := Aside0.mk (below_step HX.B hb)))
      go_ret
      exact ⟨rfl, HE.out⟩
end Go.Proofs.Yteabbcnoamhofaa.B
