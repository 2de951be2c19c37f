/- The walk of the law's own bytes: an image's bytes, number by number. -/
import Derived.Test.YteabbcnoamhofaaClos
import Derived.Lib.SmallJoins
namespace Go.Proofs.Yteabbcnoamhofaa.B
open Go.RowKit Go.Proofs.Yteabbcnoamhofaa.Mine Go.Proofs.YteabbcnoamhofaaW.PrintWords Go.Proofs.YteabbcnoamhofaaW.PrintLast Go.Proofs.YteabbcnoamhofaaW.PrintMore
set_option linter.unusedVariables false
set_option linter.unusedSimpArgs false

structure YX (w W : World) (gm : Nat) (cm : Array Value) (gb : Nat) (v : Value) (xs : List Int) : Prop where
  x : BX w W gb v xs
  m : W.heap[gm]? = some (.cells cm 30 (0, 0))
theorem YX.of {w W W' : World} {gm : Nat} {cm : Array Value} {gb : Nat} {v' : Value} {xs' : List Int} (hm : W.heap[gm]? = some (.cells cm 30 (0, 0))) (ht : Typed W W') (hx : BX w W' gb v' xs') : YX w W' gm cm gb v' xs' :=
  ⟨hx, ht gm cm 30 (by decide) (by decide) hm⟩
theorem YX.below {w W W' : World} {gm : Nat} {cm : Array Value} {gb : Nat} {v : Value} {xs : List Int} (h : YX w W gm cm gb v xs) (hb : Below W.heap.size W W') : YX w W' gm cm gb v xs := ⟨h.x.below hb, blk_below h.m hb⟩
theorem types_ne {W : World} {g g' t t' : Nat} {cs cs' : Array Value} (h : W.heap[g]? = some (.cells cs t (0, 0))) (h' : W.heap[g']? = some (.cells cs' t' (0, 0))) (hne : t ≠ t') : g ≠ g' := fun e => by
  rw [e, h'] at h
  injection h with h
  injection h with _ ht
  exact hne ht.symm
theorem YX.set {w W : World} {gm : Nat} {cm : Array Value} {gb : Nat} {v : Value} {xs : List Int} (h : YX w W gm cm gb v xs) {ga t : Nat} {cs : Array Value} (hb : W.heap[ga]? = some (.cells cs t (0, 0))) (hE : ∀ q, q ∈ 5 :: (Kd.int .u8).E → q ≠ t) (h41 : 41 ≠ t) (h30 : 30 ≠ t) (hga : w.heap.size ≤ ga) (o : Nat) (u : Value) :
    YX w (W.setCell ⟨ga, o, none⟩ u) gm cm gb v xs :=
  ⟨⟨blk_far h.x.bk (show gb ≠ ga from types_ne h.x.bk hb h41) u, Kd.R_mono (Kd.R_far (p := ⟨ga, o, none⟩) (Kd.R_types h.x.row hb hE) (fun _ hk => hk.2) u) (fun _ hk => hk.1), below_set h.x.bel hga, h.x.ge⟩, blk_far h.m (show gm ≠ ga from types_ne h.m hb h30) u⟩
theorem YX.put3 {w W : World} {gm : Nat} {cm : Array Value} {gb : Nat} {v : Value} {xs : List Int} (h : YX w W gm cm gb v xs) {ga : Nat} {a b c : Value} (hb : W.heap[ga]? = some (.cells #[a, b, c] 33 (0, 0))) (hga : w.heap.size ≤ ga) (x y z : Value) :
    YX w (((W.setCell ⟨ga, 0, none⟩ x).setCell ⟨ga, 1, none⟩ y).setCell ⟨ga, 2, none⟩ z) gm cm gb v xs ∧ (((W.setCell ⟨ga, 0, none⟩ x).setCell ⟨ga, 1, none⟩ y).setCell ⟨ga, 2, none⟩ z).heap[ga]? = some (.cells #[x, y, z] 33 (0, 0)) := by
  have b1 := blk_put (cs := #[a, b, c]) hb 0 x rfl
  have b2 := blk_put b1 1 y rfl
  have b3 := blk_put b2 2 z rfl
  exact ⟨((h.set hb (by decide) (by decide) (by decide) hga 0 x).set b1 (by decide) (by decide) (by decide) hga 1 y).set b2 (by decide) (by decide) (by decide) hga 2 z, b3⟩
theorem YX.put6 {w W : World} {gm : Nat} {cm : Array Value} {gb : Nat} {v : Value} {xs : List Int} (h : YX w W gm cm gb v xs) {ga : Nat} {a0 a1 a2 a3 a4 a5 : Value} (hb : W.heap[ga]? = some (.cells #[a0, a1, a2, a3, a4, a5] 26 (0, 0))) (hga : w.heap.size ≤ ga) (x0 x1 x2 x3 x4 x5 : Value) :
    YX w ((((((W.setCell ⟨ga, 0, none⟩ x0).setCell ⟨ga, 1, none⟩ x1).setCell ⟨ga, 2, none⟩ x2).setCell ⟨ga, 3, none⟩ x3).setCell ⟨ga, 4, none⟩ x4).setCell ⟨ga, 5, none⟩ x5) gm cm gb v xs := by
  have b1 := blk_put (cs := #[a0, a1, a2, a3, a4, a5]) hb 0 x0 rfl
  have b2 := blk_put b1 1 x1 rfl
  have b3 := blk_put b2 2 x2 rfl
  have b4 := blk_put b3 3 x3 rfl
  have b5 := blk_put b4 4 x4 rfl
  exact (((((h.set hb (by decide) (by decide) (by decide) hga 0 x0).set b1 (by decide) (by decide) (by decide) hga 1 x1).set b2 (by decide) (by decide) (by decide) hga 2 x2).set b3 (by decide) (by decide) (by decide) hga 3 x3).set b4 (by decide) (by decide) (by decide) hga 4 x4).set b5 (by decide) (by decide) (by decide) hga 5 x5
theorem alloc_size (w : World) (o : Obj) : (w.alloc o).heap.size = w.heap.size + 1 := Array.size_push ..
set_option maxRecDepth 100000 in
set_option maxHeartbeats 8000000 in
theorem bytes_calls (A0 : Option Addr) (c0 : Nat) (C : List S26) (A1 : Option Addr) (c1 : Nat) (A : List S33) (st mem : Int) (w : World) (hC : Kd.C k26 w A0 C.length C) (hc0 : C.length ≤ c0) (hA : Kd.C k33 w A1 A.length A) (hc1 : A.length ≤ c1)
    (hm : 0 ≤ mem ∧ mem < 4294967296) (hs : 0 ≤ st ∧ st < 4294967296) (hCl : C.length ≤ 1000) (hAl : A.length ≤ 1000) (ha : ∀ a ∈ A, (0 ≤ a.f1 ∧ a.f1 < 4294967296) ∧ 0 ≤ a.f2 ∧ a.f2 < 4294967296) (hr : ∀ i ∈ C, rightB i.f0 i.f1 i.f2 i.f3 i.f4 i.f5 = true) :
    Calls Try.prog 15 #[.agg #[.slice A0 C.length c0, .slice A1 A.length c1, .int .i64 st, .int .i64 mem]] w fun e w' => ∃ v, e = .returned v ∧ Kd.R (Kd.int .u8) 5 w' w.heap.size (fun _ => True) v (encI C A st mem) ∧ Below w.heap.size w w' := by
  have hu30 := Try.underlying30
  have hu33 := Try.underlying33
  have hu26 := Try.underlying26
  have HB := Aside0.mk (Below.refl w.heap.size w)
  go_enter Try.func15, Try.ntmps15
  go_upto_region 1 with (first | ((with_reducible refine gate_dst (N := 1) rfl ?_); (try (refine gate_guard (by rfl) ?_; dsimp only)); refine box_event ?hg (N := 1) ?hd (cs := #[.slice A0 C.length c0, .slice A1 A.length c1, .int .i64 st, .int .i64 mem]) (t := 30) ?hr ?_; (case hd => rfl); (case hg => rfl); (case hr => first | (go_simp; done) | (go_simp; rfl)); intro gm hg wm hbox hb; have HB' := Aside0.mk (below_step HB.out hb); clear HB; have HB := HB'; have BM := Aside0.mk hbox; clear HB' hb hg hbox))
  have hcv : (convert 41 41 (.slice (some ⟨wm.heap.size, 0, none⟩) 4 4)).run Try.prog (wm.alloc (.cells #[.int .u8 112, .int .u8 97, .int .u8 108, .int .u8 49] 5)) = .ok (.slice (some ⟨wm.heap.size, 0, none⟩) 4 4) (wm.alloc (.cells #[.int .u8 112, .int .u8 97, .int .u8 108, .int .u8 49] 5 (4, 5))) :=
    Go.Joins.run_convert_bytes_const_at (P := Try.prog) wm 41 5 lit4 4 4 wm.heap.size rfl Try.underlying41 Try.underlying5
  go_upto_region 2 with (fail)
  refine wp_gen (fun W => MX w W (wm.heap.size + 1) wm.heap.size ∧ W.heap[gm]? = some (.cells #[.slice A0 C.length c0, .slice A1 A.length c1, .int .i64 st, .int .i64 mem] 30 (0, 0))) ⟨⟨?_, blk_alloc (heap_alloc_new wm _) _, below_alloc (below_alloc HB.out _) _, Nat.le_trans (below_size HB.out) (Nat.le_succ _)⟩, blk_alloc (blk_alloc BM.out _) _⟩ (fun W1 H1 => ?_)
  · have h := heap_alloc_new (wm.alloc (.cells #[.int .u8 112, .int .u8 97, .int .u8 108, .int .u8 49] 5 (4, 5))) (.cells #[Value.slice (some ⟨wm.heap.size, 0, none⟩) 4 4] 41)
    rwa [alloc_size] at h
  have HY := Aside0.mk H1
  clear HB BM hcv H1
  obtain ⟨gb, hgb⟩ : ∃ gb, wm.heap.size + 1 = gb := ⟨_, rfl⟩
  rw [hgb] at HY
  rw [hgb]
  obtain ⟨hm0, hm1, hm2, hm3⟩ := box4 HY.out.2
  go_upto_region 4 with (first | (go_at_call 21; refine (clos_lit w _ gb wm.heap.size mem hm.1 hm.2 HY.out.1).mono ?_; rintro e W2 ⟨rfl, ht, v2, hx2⟩; have HY' := Aside0.mk (YX.of (w := w) HY.out.2 ht hx2); clear HY hx2 ht; have HY := HY'; clear HY'; obtain ⟨hm0, hm1, hm2, hm3⟩ := box4 HY.out.m))
  go_upto_region 5 with (first | (go_at_call 21; refine (clos_calls w _ gb _ _ st hs.1 hs.2 (by simp only [List.length_append, List.length_cons, List.length_nil, n4_len, flatA_len, List.length_take]; omega) HY.out.x).mono ?_; rintro e W2 ⟨rfl, ht, v2, hx2⟩; have HY' := Aside0.mk (YX.of (w := w) HY.out.m ht hx2); clear HY hx2 ht; have HY := HY'; clear HY'; obtain ⟨hm0, hm1, hm2, hm3⟩ := box4 HY.out.m))
  go_upto_region 6 with (first | (go_at_call 21; refine (clos_calls w _ gb _ _ A.length (by omega) (by omega) (by simp only [List.length_append, List.length_cons, List.length_nil, n4_len, flatA_len, List.length_take]; omega) HY.out.x).mono ?_; rintro e W2 ⟨rfl, ht, v2, hx2⟩; have HY' := Aside0.mk (YX.of (w := w) HY.out.m ht hx2); clear HY hx2 ht; have HY := HY'; clear HY'; obtain ⟨hm0, hm1, hm2, hm3⟩ := box4 HY.out.m))
  go_wp2
  obtain ⟨xs0, hx0⟩ : ∃ xs0 : List Int, (([112, 97, 108, 49] : List Int) ++ n4 mem) ++ n4 st ++ n4 (A.length : Int) = xs0 := ⟨_, rfl⟩
  rw [hx0] at HY
  have hxl : xs0.length = 16 := by rw [← hx0]; rfl
  go_loopg [30] (A.length + 1) (fun kq v30 w' => ∃ (i : Nat) (v : Value), v30 = .int .i64 (i : Int) ∧ Aside0 (i ≤ A.length ∧ A.length + 1 ≤ kq + i) ∧ Aside0 (YX w w' gm #[.slice A0 C.length c0, .slice A1 A.length c1, .int .i64 st, .int .i64 mem] gb v (xs0 ++ (A.take i).flatMap encA)))
  case atStart => exact ⟨0, v2, rfl, ⟨by omega⟩, ⟨by simpa using HY.out⟩⟩
  case round =>
    clear HY hm0 hm1 hm2 hm3
    obtain ⟨i, v, rfl, HM, HY⟩ := hrel
    cases gk with
    | zero => have := HM.out; omega
    | succ k1 =>
      by_cases hi : i < A.length
      · obtain ⟨I, hI⟩ : ∃ I : Int, (i : Int) = I := ⟨_, rfl⟩
        have p1 : 0 ≤ I := by omega
        have q1 : I < (A.length : Int) := by omega
        have c1_ : decide (I < (A.length : Int)) = true := decide_eq_true q1
        obtain ⟨ad, e, ha0, ha1, ha2⟩ := at_T33 hA I p1 q1
        have hrd : rd_T33 A I = A[i] := by rw [← hI]; exact rd33_get hi
        have HF := Aside0.mk (show (0 ≤ (rd_T33 A I).f1 ∧ (rd_T33 A I).f1 < 4294967296) ∧ 0 ≤ (rd_T33 A I).f2 ∧ (rd_T33 A I).f2 < 4294967296 by rw [hrd]; exact ha _ (List.getElem_mem hi))
        have hL0 : (xs0 ++ (A.take i).flatMap encA).length + 4 < 100000 := by simp only [List.length_append, flatA_len, List.length_take, hxl]; omega
        have HL := Aside0.mk hL0
        have HL2 := Aside0.mk (show (xs0 ++ (A.take i).flatMap encA ++ n4 (rd_T33 A I).f1).length < 100000 by rw [List.length_append, n4_len]; exact hL0)
        clear hL0
        rw [hI]
        have HI := Aside0.mk hI
        have HRD := Aside0.mk hrd
        clear hI hrd
        subst e
        replace ha0 := (HY.out.x.bel.cell (World.block_lt_of_cell? w _ ha0)).trans ha0
        replace ha1 := (HY.out.x.bel.cell (World.block_lt_of_cell? w _ ha1)).trans ha1
        replace ha2 := (HY.out.x.bel.cell (World.block_lt_of_cell? w _ ha2)).trans ha2
        replace p1 := eq_true p1
        replace q1 := eq_true q1
        go_upto_region 9 with (first | ((with_reducible refine gate_dst (N := 6) rfl ?_); refine box_event ?hg (N := 6) ?hd (cs := #[.int .i64 0, .int .i64 0, .int .i64 0]) (t := 33) ?hr ?_; (case hd => rfl); (case hg => rfl); (case hr => first | (go_simp; done) | (go_simp; rfl)); intro ga hg wx hbox hb; have GEA := Aside0.mk (show w.heap.size ≤ ga by rw [hg]; exact below_size HY.out.x.bel); have HY' := Aside0.mk (HY.out.below hb); clear HY; have HY := HY'; clear HY'; have BA := Aside0.mk hbox; clear hb hg hbox; have hb0_ : wx.cell? ⟨ga, 0, none⟩ = some (.int .i64 0) := (blk_cell BA.out 0).trans rfl; have hb1_ : wx.cell? ⟨ga, 1, none⟩ = some (.int .i64 0) := (blk_cell BA.out 1).trans rfl; have hb2_ : wx.cell? ⟨ga, 2, none⟩ = some (.int .i64 0) := (blk_cell BA.out 2).trans rfl; have hf0_ := blk_frozen BA.out 0; have hf1_ := blk_frozen BA.out 1; have hf2_ := blk_frozen BA.out 2))
        go_upto_region 10 with (first | (go_at_call 21; have h3 := HY.out.put3 BA.out GEA.out (.int .i64 (rd_T33 A I).f0) (.int .i64 (rd_T33 A I).f1) (.int .i64 (rd_T33 A I).f2); (with_reducible refine (clos_calls w _ gb _ _ (rd_T33 A I).f1 HF.out.1.1 HF.out.1.2 (Nat.lt_of_le_of_lt (Nat.le_add_right _ 4) HL.out) h3.1.x).mono ?_); rintro e W3 ⟨rfl, ht, v3, hx3⟩; have HY' := Aside0.mk (YX.of h3.1.m ht hx3); have BA' := Aside0.mk (ht ga _ 33 (by decide) (by decide) h3.2); clear HY BA hx3 ht h3; have HY := HY'; have BA := BA'; clear HY' BA'; have hb2_ : W3.cell? ⟨ga, 2, none⟩ = some (.int .i64 (rd_T33 A I).f2) := (blk_cell BA.out 2).trans rfl))
        go_wp2_with (first | (go_at_call 21; (with_reducible refine (clos_calls w _ gb _ _ (rd_T33 A I).f2 HF.out.2.1 HF.out.2.2 HL2.out HY.out.x).mono ?_); rintro e W4 ⟨rfl, ht, v4, hx4⟩; have HY' := Aside0.mk (YX.of HY.out.m ht hx4); clear HY hx4 ht; have HY := HY'; clear HY'))
        go_roundg k1
        case measure => have := HM.out; omega
        case rel =>
          refine ⟨i + 1, v4, by rw [← HI.out, w64 ((i : Int) + 1) (by omega) (by omega)]; rfl, ⟨by have := HM.out; omega⟩, ⟨?_⟩⟩
          have h := HY.out
          rw [HRD.out] at h
          rw [show xs0 ++ (A.take (i + 1)).flatMap encA = xs0 ++ (A.take i).flatMap encA ++ n4 A[i].f1 ++ n4 A[i].f2 by rw [List.take_add_one, List.getElem?_eq_getElem hi, List.flatMap_append]; simp [encA, List.append_assoc]]
          exact h
      · have hiA : i = A.length := by have := HM.out; omega
        have c1_ : decide ((i : Int) < (A.length : Int)) = false := decide_eq_false (by omega)
        rw [hiA, List.take_length] at HY
        obtain ⟨hm0, hm1, hm2, hm3⟩ := box4 HY.out.m
        have HCL := Aside0.mk (show (0 : Int) ≤ (C.length : Int) ∧ (C.length : Int) < 4294967296 by omega)
        have HL := Aside0.mk (show (xs0 ++ A.flatMap encA).length < 100000 by rw [List.length_append, flatA_len, hxl]; omega)
        go_upto_region 13 with (first | (go_at_call 21; (with_reducible refine (clos_calls w _ gb _ _ (C.length : Int) HCL.out.1 HCL.out.2 HL.out HY.out.x).mono ?_); rintro e W2 ⟨rfl, ht, v2, hx2⟩; have HY' := Aside0.mk (YX.of HY.out.m ht hx2); clear HY hx2 ht; have HY := HY'; clear HY'; obtain ⟨hm0, hm1, hm2, hm3⟩ := box4 HY.out.m))
        go_wp2
        obtain ⟨xs1, hx1⟩ : ∃ xs1 : List Int, xs0 ++ A.flatMap encA ++ n4 (C.length : Int) = xs1 := ⟨_, rfl⟩
        rw [hx1] at HY
        have hxl1 : xs1.length = 20 + 8 * A.length := by rw [← hx1, List.length_append, List.length_append, flatA_len, hxl, n4_len]; omega
        clear HL
        go_loopg [51] (C.length + 1) (fun kq v51 w' => ∃ (i : Nat) (v : Value), v51 = .int .i64 (i : Int) ∧ Aside0 (i ≤ C.length ∧ C.length + 1 ≤ kq + i) ∧ Aside0 (YX w w' gm #[.slice A0 C.length c0, .slice A1 A.length c1, .int .i64 st, .int .i64 mem] gb v (xs1 ++ (C.take i).flatMap encC)))
        case atStart => exact ⟨0, v2, rfl, ⟨by omega⟩, ⟨by simpa using HY.out⟩⟩
        case round =>
          clear HY hm0 hm1 hm2 hm3
          obtain ⟨i, v, rfl, HM2, HY⟩ := hrel
          cases gk with
          | zero => have := HM2.out; omega
          | succ k2 =>
            by_cases hi2 : i < C.length
            · obtain ⟨I, hI⟩ : ∃ I : Int, (i : Int) = I := ⟨_, rfl⟩
              have p1 : 0 ≤ I := by omega
              have q1 : I < (C.length : Int) := by omega
              have c1_ : decide (I < (C.length : Int)) = true := decide_eq_true q1
              obtain ⟨ad, e, ha0, ha1, ha2, ha3, ha4, ha5⟩ := at_T26 hC I p1 q1
              have hrd : rd_T26 C I = C[i] := by rw [← hI]; exact rd26_get hi2
              have HE := Aside0.mk (show code_Encode.f 20 (rd_T26 C I).f0 (rd_T26 C I).f1 (rd_T26 C I).f2 (rd_T26 C I).f3 (rd_T26 C I).f4 (rd_T26 C I).f5 = some (bytesI (rd_T26 C I).f0 (rd_T26 C I).f1 (rd_T26 C I).f2 (rd_T26 C I).f3 (rd_T26 C I).f4 (rd_T26 C I).f5, 0) by rw [encode_k 20 (Nat.le_refl _), if_pos (by rw [hrd]; exact hr _ (List.getElem_mem hi2))])
              obtain ⟨zs, hzs⟩ : ∃ zs, xs1 ++ (C.take i).flatMap encC = zs := ⟨_, rfl⟩
              have HL := Aside0.mk (show zs.length < 100000 by rw [← hzs, List.length_append, flatC_len, List.length_take, hxl1]; omega)
              rw [hzs] at HY
              rw [hI]
              have HI := Aside0.mk hI
              have HRD := Aside0.mk hrd
              have HZ := Aside0.mk hzs
              clear hI hrd hzs
              subst e
              replace ha0 := (HY.out.x.bel.cell (World.block_lt_of_cell? w _ ha0)).trans ha0
              replace ha1 := (HY.out.x.bel.cell (World.block_lt_of_cell? w _ ha1)).trans ha1
              replace ha2 := (HY.out.x.bel.cell (World.block_lt_of_cell? w _ ha2)).trans ha2
              replace ha3 := (HY.out.x.bel.cell (World.block_lt_of_cell? w _ ha3)).trans ha3
              replace ha4 := (HY.out.x.bel.cell (World.block_lt_of_cell? w _ ha4)).trans ha4
              replace ha5 := (HY.out.x.bel.cell (World.block_lt_of_cell? w _ ha5)).trans ha5
              replace p1 := eq_true p1
              replace q1 := eq_true q1
              go_upto_region 16 with (first | ((with_reducible refine gate_dst (N := 8) rfl ?_); refine box_event ?hg (N := 8) ?hd (cs := #[.int .i64 0, .int .i64 0, .int .i64 0, .int .i64 0, .int .i64 0, .int .i64 0]) (t := 26) ?hr ?_; (case hd => rfl); (case hg => rfl); (case hr => first | (go_simp; done) | (go_simp; rfl)); intro ga hg wx hbox hb; have GEA := Aside0.mk (show w.heap.size ≤ ga by rw [hg]; exact below_size HY.out.x.bel); have HY' := Aside0.mk (HY.out.below hb); clear HY; have HY := HY'; clear HY'; have BA := Aside0.mk hbox; clear hb hg hbox; have hb0_ : wx.cell? ⟨ga, 0, none⟩ = some (.int .i64 0) := (blk_cell BA.out 0).trans rfl; have hb1_ : wx.cell? ⟨ga, 1, none⟩ = some (.int .i64 0) := (blk_cell BA.out 1).trans rfl; have hb2_ : wx.cell? ⟨ga, 2, none⟩ = some (.int .i64 0) := (blk_cell BA.out 2).trans rfl; have hb3_ : wx.cell? ⟨ga, 3, none⟩ = some (.int .i64 0) := (blk_cell BA.out 3).trans rfl; have hb4_ : wx.cell? ⟨ga, 4, none⟩ = some (.int .i64 0) := (blk_cell BA.out 4).trans rfl; have hb5_ : wx.cell? ⟨ga, 5, none⟩ = some (.int .i64 0) := (blk_cell BA.out 5).trans rfl; have hf0_ := blk_frozen BA.out 0; have hf1_ := blk_frozen BA.out 1; have hf2_ := blk_frozen BA.out 2; have hf3_ := blk_frozen BA.out 3; have hf4_ := blk_frozen BA.out 4; have hf5_ := blk_frozen BA.out 5))
              go_upto_region 17 with (first | ((with_reducible refine gate_callee (f := 22) rfl ?_); refine goesL_ (some 57) rfl rfl Try.func22 (by kernel_rfl) rfl #[.agg #[.int .i64 (rd_T26 C I).f0, .int .i64 (rd_T26 C I).f1, .int .i64 (rd_T26 C I).f2, .int .i64 (rd_T26 C I).f3, .int .i64 (rd_T26 C I).f4, .int .i64 (rd_T26 C I).f5]] rfl (by (try simp only [List.map_toArray, List.map_cons, List.map_nil]); first | done | rfl) ?_; (with_reducible refine (code_Encode.calls 20 ((rd_T26 C I).f0) ((rd_T26 C I).f1) ((rd_T26 C I).f2) ((rd_T26 C I).f3) ((rd_T26 C I).f4) ((rd_T26 C I).f5) (bytesI ((rd_T26 C I).f0) ((rd_T26 C I).f1) ((rd_T26 C I).f2) ((rd_T26 C I).f3) ((rd_T26 C I).f4) ((rd_T26 C I).f5)) 0 _ HE.out).mono ?_); rintro e we ⟨ve, rfl, hoe, hb⟩; refine ⟨_, rfl, ?_⟩; have HY' := Aside0.mk ((HY.out.put6 BA.out GEA.out (.int .i64 (rd_T26 C I).f0) (.int .i64 (rd_T26 C I).f1) (.int .i64 (rd_T26 C I).f2) (.int .i64 (rd_T26 C I).f3) (.int .i64 (rd_T26 C I).f4) (.int .i64 (rd_T26 C I).f5)).below hb); clear HY BA; have HY := HY'; clear HY' hb; have HOE := Aside0.mk hoe; clear hoe; obtain ⟨Ae, ce, ee⟩ := Kd.R_slice HOE.out; subst ee))
              have hc0 : we.cell? ⟨gb, 0, none⟩ = some v := (blk_cell HY.out.x.bk 0).trans rfl
              go_wp2_with (first | ((with_reducible refine gate_builtin (b := .append) (xs := #[.tmp 60, .tmp 61]) rfl ?_); at_builtin; refine Kd.R_append_rows (Kd.int .u8) (w0 := w) w.heap.size rfl (.tmp 60) (.tmp 61) 41 5 (.int .u8 0) 1 rfl Try.underlying41 info5 rfl (by decide) (by omega) v zs (bytesI ((rd_T26 C I).f0) ((rd_T26 C I).f1) ((rd_T26 C I).f2) ((rd_T26 C I).f3) ((rd_T26 C I).f4) ((rd_T26 C I).f5)) _ _ _ (fun k => k ≠ gb) (fun _ => False) rfl rfl ?aO ?aR (fun _ _ h => h) (fun _ h => h.elim) ?aF ?aB ?aS ?aL ?_; (case aR => exact (Kd.R_reads' HOE.out).2.2); (case aB => exact HY.out.x.bel); (case aF => exact (fun k_ hk => Kd.freshB (g := gb) HY.out.x.bk k_ hk)); (case aO => exact HY.out.x.row); (case aS => exact below_size HY.out.x.bel); (case aL => have := HL.out; have h13 : (bytesI ((rd_T26 C I).f0) ((rd_T26 C I).f1) ((rd_T26 C I).f2) ((rd_T26 C I).f3) ((rd_T26 C I).f4) ((rd_T26 C I).f5)).length = 13 := rfl; omega); intro v1 w1 hor hb hg hat; have HN : Aside0 (w1.heap[gb]? = some (.cells #[v] 41 (0, 0)) ∧ Kd.R (Kd.int .u8) 5 w1 w.heap.size (fun k => k ≠ gb) v1 (zs ++ bytesI ((rd_T26 C I).f0) ((rd_T26 C I).f1) ((rd_T26 C I).f2) ((rd_T26 C I).f3) ((rd_T26 C I).f4) ((rd_T26 C I).f5)) ∧ Below w.heap.size w w1 ∧ w1.heap[gm]? = some (.cells #[.slice (some ad) C.length c0, .slice A1 A.length c1, .int .i64 st, .int .i64 mem] 30 (0, 0))) := ⟨blk_grown HY.out.x.bk hg (Kd.R_away HY.out.x.row (fun _ hk => hk)), hor, hb, blk_grown HY.out.m hg (Kd.R_ne HY.out.x.row HY.out.m (by decide))⟩; clear hor hb hg hat; obtain ⟨Av, cv, ev⟩ := Kd.R_slice HN.out.2.1; subst ev; have hd1 : w1.cell? ⟨gb, 0, none⟩ = some v := (blk_cell HN.out.1 0).trans rfl; have he1 := blk_frozen HN.out.1 0))
              go_roundg k2
              case measure => have := HM2.out; omega
              case rel =>
                have hl13 : (zs ++ bytesI (rd_T26 C I).f0 (rd_T26 C I).f1 (rd_T26 C I).f2 (rd_T26 C I).f3 (rd_T26 C I).f4 (rd_T26 C I).f5).length = zs.length + 13 := by rw [List.length_append]; rfl
                refine ⟨i + 1, _, by rw [← HI.out, w64 ((i : Int) + 1) (by omega) (by omega)]; rfl, ⟨by have := HM2.out; omega⟩, ⟨⟨blk_put (cs := #[v]) HN.out.1 0 _ rfl, ?_, below_set HN.out.2.2.1 HY.out.x.ge, HY.out.x.ge⟩, blk_far HN.out.2.2.2 (show gm ≠ gb from types_ne HN.out.2.2.2 HN.out.1 (by decide)) _⟩⟩
                rw [show xs1 ++ (C.take (i + 1)).flatMap encC = zs ++ bytesI (rd_T26 C I).f0 (rd_T26 C I).f1 (rd_T26 C I).f2 (rd_T26 C I).f3 (rd_T26 C I).f4 (rd_T26 C I).f5 by rw [List.take_add_one, List.getElem?_eq_getElem hi2, List.flatMap_append, HRD.out, ← HZ.out]; simp [encC, List.append_assoc]]
                have hrow := HN.out.2.1
                rw [List.length_append] at hrow
                exact Kd.R_far (p := ⟨gb, 0, none⟩) hrow (fun _ hk => hk) _
            · have hiC : i = C.length := by have := HM2.out; omega
              have c1_ : decide ((i : Int) < (C.length : Int)) = false := decide_eq_false (by omega)
              rw [hiC, List.take_length] at HY
              have hc0 : wr.cell? ⟨gb, 0, none⟩ = some v := (blk_cell HY.out.x.bk 0).trans rfl
              go_wp2
              go_ret
              refine ⟨v, rfl, ?_, HY.out.x.bel⟩
              have h := Kd.R_mono (ok' := fun _ => True) HY.out.x.row (fun _ _ => trivial)
              rw [show encI C A st mem = xs1 ++ C.flatMap encC by rw [← hx1, ← hx0]; unfold encI; simp only [List.append_assoc]]
              exact h
end Go.Proofs.Yteabbcnoamhofaa.B
