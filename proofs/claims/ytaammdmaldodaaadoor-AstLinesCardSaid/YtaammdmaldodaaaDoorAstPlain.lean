/- plain: has a statement no names with newlines? -/
import Derived.Test.YtaammdmaldodaaaDoorAstPlainP
import Derived.Test.YtaammdmaldodaaaDoorAstNames
namespace Go.Proofs.YtaammdmaldodaaaDoor.B
open Go.RowKit Go.Proofs.YtaammdmaldodaaaDoor.Mine Go.Proofs.YtaammdmaldodaaaDoor.Sep Go.Proofs.YtaammdmaldodaaaDoorW.PrintWords Go.Proofs.YtaammdmaldodaaaDoorW.PrintLast Go.Proofs.YtaammdmaldodaaaDoorW.PrintMore
set_option linter.unusedVariables false
set_option linter.unusedSimpArgs false
/-- Rows of elements that lie as they lay at W0. -/
def lent {α : Type} (d : Kd α) (W0 : World) : Kd α where
  sz := d.sz
  E := []
  K := fun _ x cs => d.K W0 x cs
  M := fun _ _ _ x cs => d.K W0 x cs
  K_len := fun h => d.K_len h
  K_one := fun h => d.K_one h
  K_below := fun _ h => h
  K_of_M := fun h => h
  M_mono := fun _ h => h
  M_bound := fun h => h
  M_move := fun _ h => h
  M_lower := fun _ h => h
theorem C_lent {α : Type} {d : Kd α} {W w : World} {A : Option Addr} {n : Nat} {xs : List α} (hb : Below W.heap.size W w) (h : Kd.C d W A n xs) : Kd.C (lent d W) w A n xs := ReadsRow.imp_ h hb (fun _ _ h => h)
theorem lent_at {W w : World} {A : Option Addr} {n : Nat} {xs : List S38} (h : Kd.C (lent k38 W) w A n xs) (i : Int) (h0 : 0 ≤ i) (h1 : i < n) :
    ∃ ad A4 c4 A5 c5 A6 c6, A = some ad ∧ w.cell? (ad.add (i.toNat * 7)) = some (.int .i64 (rd_T38 xs i).f0) ∧ w.cell? ⟨(ad.add (i.toNat * 7)).block, (ad.add (i.toNat * 7)).off + 1, none⟩ = some (.int .i64 (rd_T38 xs i).f1.f0) ∧ w.cell? ⟨(ad.add (i.toNat * 7)).block, (ad.add (i.toNat * 7)).off + 2, none⟩ = some (.int .i64 (rd_T38 xs i).f1.f1) ∧ w.cell? ⟨(ad.add (i.toNat * 7)).block, (ad.add (i.toNat * 7)).off + 3, none⟩ = some (.string (rd_T38 xs i).f2) ∧
      w.cell? ⟨(ad.add (i.toNat * 7)).block, (ad.add (i.toNat * 7)).off + 4, none⟩ = some (.slice A4 (rd_T38 xs i).f3.length c4) ∧ w.cell? ⟨(ad.add (i.toNat * 7)).block, (ad.add (i.toNat * 7)).off + 5, none⟩ = some (.slice A5 (rd_T38 xs i).f4.length c5) ∧ w.cell? ⟨(ad.add (i.toNat * 7)).block, (ad.add (i.toNat * 7)).off + 6, none⟩ = some (.slice A6 (rd_T38 xs i).f5.length c6) ∧
      (rd_T38 xs i).f3.length ≤ c4 ∧ Kd.C k31 W A4 (rd_T38 xs i).f3.length (rd_T38 xs i).f3 ∧ (rd_T38 xs i).f4.length ≤ c5 ∧ Kd.C k38 W A5 (rd_T38 xs i).f4.length (rd_T38 xs i).f4 ∧ (rd_T38 xs i).f5.length ≤ c6 ∧ Kd.C k38 W A6 (rd_T38 xs i).f5.length (rd_T38 xs i).f5 := by
  obtain ⟨ad, c, e, _, hK, hc0⟩ := Kd.C_get h z38 i h0 h1
  have hK' : Kd.K k38 W (xs.getD i.toNat z38) c := hK
  obtain ⟨A4, c4, A5, c5, A6, c6, rfl, l4, g4, l5, g5, l6, g6⟩ := k38_open hK'
  have hc : ∀ (j : Nat) (u : Value), _ → w.cell? (ad.add (i.toNat * 7 + j)) = some u := hc0
  exact ⟨ad, A4, c4, A5, c5, A6, c6, e, hc 0 _ rfl, by rw [← add_field _ _ 1 (by omega)]; exact hc 1 _ rfl, by rw [← add_field _ _ 2 (by omega)]; exact hc 2 _ rfl, by rw [← add_field _ _ 3 (by omega)]; exact hc 3 _ rfl, by rw [← add_field _ _ 4 (by omega)]; exact hc 4 _ rfl, by rw [← add_field _ _ 5 (by omega)]; exact hc 5 _ rfl, by rw [← add_field _ _ 6 (by omega)]; exact hc 6 _ rfl, l4, g4, l5, g5, l6, g6⟩
theorem bs_get {nm : List UInt8} {i : Nat} (h : i < (bs nm).size) (h' : i < nm.length) : (bs nm)[i]'h = nm[i] := rfl
theorem clB_take {nm : List UInt8} {i : Nat} (h : i < nm.length) : clB (nm.take (i + 1)) = (clB (nm.take i) && (nm[i] != 10 && nm[i] != 9)) := by
  unfold clB
  rw [List.take_succ_eq_append_getElem h, List.all_append]
  simp
theorem clB_off {nm : List UInt8} {i : Nat} (h : i < nm.length) (hb : (nm[i] != 10 && nm[i] != 9) = false) : clB nm = false := by
  cases hc : clB nm with
  | false => rfl
  | true =>
    have := List.all_eq_true.1 hc nm[i] (List.getElem_mem h)
    rw [hb] at this
    cases this
theorem u8_eq {x y : UInt8} (h : (((x.toNat : Nat) : Int) == ((y.toNat : Nat) : Int)) = true) : x = y := by
  have : x.toNat = y.toNat := by exact_mod_cast eq_of_beq h
  exact UInt8.toNat_inj.1 this
theorem u8_ne {x y : UInt8} (h : (((x.toNat : Nat) : Int) == ((y.toNat : Nat) : Int)) = false) : (x != y) = true := by
  rw [bne_iff_ne]
  rintro rfl
  simp at h
theorem all_take {α : Type} (f : α → Bool) {l : List α} {i : Nat} (h : i < l.length) : (l.take (i + 1)).all f = ((l.take i).all f && f l[i]) := by
  rw [List.take_succ_eq_append_getElem h, List.all_append]
  simp
theorem all_off {α : Type} (f : α → Bool) {l : List α} {i : Nat} (h : i < l.length) (hb : f l[i] = false) : l.all f = false := by
  cases hc : l.all f with
  | false => rfl
  | true =>
    have := List.all_eq_true.1 hc l[i] (List.getElem_mem h)
    rw [hb] at this
    cases this
theorem infoS : (Tryd.prog.info? 38).map (fun i => (i.zero, i.size, i.bytes)) = some (some (.agg #[.int .i64 0, .int .i64 0, .int .i64 0, .string ⟨#[]⟩, .slice none 0 0, .slice none 0 0, .slice none 0 0]), 7, 112) := by kernel_rfl
def PlainC (s : S38) : Prop := ∀ (W : World) (A4 : Option Addr) (c4 : Nat) (A5 : Option Addr) (c5 : Nat) (A6 : Option Addr) (c6 : Nat), GL W → okS s → plR s → Kd.C k31 W A4 s.f3.length s.f3 → s.f3.length ≤ c4 → Kd.C k38 W A5 s.f4.length s.f4 → s.f4.length ≤ c5 → Kd.C k38 W A6 s.f5.length s.f5 → s.f5.length ≤ c6 →
    Calls Tryd.prog 15 #[.agg #[.int .i64 s.f0, .int .i64 s.f1.f0, .int .i64 s.f1.f1, .string s.f2, .slice A4 s.f3.length c4, .slice A5 s.f4.length c5, .slice A6 s.f5.length c6]] W fun r w' => r = .returned (.bool (plainS s)) ∧ Below W.heap.size W w'
set_option maxRecDepth 100000 in
set_option maxHeartbeats 4000000 in
theorem plain_step {k p0 p1 : Int} {nm X : List UInt8} {A4 : Option Addr} {c4 : Nat} {A5 : Option Addr} {c5 : Nat} {A6 : Option Addr} {c6 : Nat} {es : List S31} {th el : List S38} (W : World) (hn : nm.length ≤ MX) (hX : 0 < X.length)
    (HX : Aside0 (∀ w : World, Below W.heap.size W w → Calls Tryd.prog 16 #[.agg #[.int .i64 k, .int .i64 p0, .int .i64 p1, .string (bs nm), .slice A4 es.length c4, .slice A5 th.length c5, .slice A6 el.length c6], .int .i64 0] w fun r w' => r = .returned (.string (bs X)) ∧ Below w.heap.size w w'))
    (H4 : Aside0 (Kd.C k31 W A4 es.length es)) (HSZ : Aside0 (∀ e ∈ es, szE e ≤ MX)) (HT : Aside0 (Kd.C k38 W A5 th.length th)) (HE : Aside0 (Kd.C k38 W A6 el.length el)) (H8 : Aside0 (th.length ≤ 8 ∧ el.length ≤ 8))
    (HP : Aside0 (∀ s ∈ th ++ el, ∀ (w : World), Below W.heap.size W w → ∀ (B4 : Option Addr) (d4 : Nat) (B5 : Option Addr) (d5 : Nat) (B6 : Option Addr) (d6 : Nat), Kd.C k31 W B4 s.f3.length s.f3 → s.f3.length ≤ d4 → Kd.C k38 W B5 s.f4.length s.f4 → s.f4.length ≤ d5 → Kd.C k38 W B6 s.f5.length s.f5 → s.f5.length ≤ d6 →
      Calls Tryd.prog 15 #[.agg #[.int .i64 s.f0, .int .i64 s.f1.f0, .int .i64 s.f1.f1, .string s.f2, .slice B4 s.f3.length d4, .slice B5 s.f4.length d5, .slice B6 s.f5.length d6]] w fun r w' => r = .returned (.bool (plainS s)) ∧ Below w.heap.size w w')) :
    Calls Tryd.prog 15 #[.agg #[.int .i64 k, .int .i64 p0, .int .i64 p1, .string (bs nm), .slice A4 es.length c4, .slice A5 th.length c5, .slice A6 el.length c6]] W fun r w' => r = .returned (.bool (clB nm && (es.all cleanE && (th ++ el).all plainS))) ∧ Below W.heap.size W w' := by
  have HS := Sat.start W
  have HMX := Aside0.mk hn
  have HXL := Aside0.mk hX
  clear hn hX
  go_enter Tryd.func15, Tryd.ntmps15
  go_upto_region 1 with ((with_reducible refine gate_dst (N := 1) rfl ?_); go_must (refine ev_box HS rfl (N := 1) rfl (cs := #[.int .i64 k, .int .i64 p0, .int .i64 p1, .string (bs nm), .slice A4 es.length c4, .slice A5 th.length c5, .slice A6 el.length c6]) (t := 38) ?hrun ?_); (case hrun => first | (go_simp; done) | (go_simp; rfl)); clear HS; intro gb w HS)
  go_upto_region 2 with (first | ((with_reducible refine gate_dst (N := 9) rfl ?_); ((with_reducible refine gate_load (ty := 38) (p := 1) rfl ?_); go_must (refine ev_load HS 0 rfl rfl 38 (.tmp 1) rfl (N := 9) rfl rfl _ Tryd.underlying38 rfl (by kernel_rfl) ?_))) | (go_at_call 16; refine (HX.out _ (HS.old 1 rfl)).mono ?_; rintro e w_ ⟨rfl, hb⟩; replace HS := HS.below hb; clear hb))
  have cb := HS.cell 0 rfl
  go_wp2
  go_loopg [4] (nm.length + 1) (fun kq v4 w' => ∃ (i : Nat), v4 = .int .i64 (i : Int) ∧ Aside0 (i ≤ nm.length ∧ nm.length + 1 ≤ kq + i) ∧ Aside0 (clB (nm.take i) = true) ∧
      Aside0 (Sat W w' [blk gb 38 #[.int .i64 k, .int .i64 p0, .int .i64 p1, .string (bs nm), .slice A4 es.length c4, .slice A5 th.length c5, .slice A6 el.length c6], old W]))
  case atStart => exact ⟨0, rfl, ⟨by omega, by omega⟩, ⟨rfl⟩, ⟨HS⟩⟩
  case round =>
    clear HS cb
    obtain ⟨i, rfl, HI, HCL, HS'⟩ := hrel
    have HS := HS'.out
    clear HS'
    have cb := HS.cell 0 rfl
    have hsz := bs_size nm
    cases gk with
    | zero => have := HI.out; omega
    | succ k1 =>
      by_cases hk : i < nm.length
      · have c1_ : decide ((i : Int) < (nm.length : Int)) = true := decide_eq_true (by omega)
        have c2_ : decide (i < nm.length) = true := decide_eq_true hk
        have h0 : (0 : Int) ≤ (i : Int) := by omega
        have hsz2 : (i : Int) < ((bs nm).size : Int) := by rw [hsz]; omega
        have hbt : i < (bs nm).size := by omega
        have hwi : wrap64 ((i : Int) + 1) = (i : Int) + 1 := w64 _ (by omega) (by have := HMX.out; have := mx_le; omega)
        by_cases b10 : ((((bs nm)[i]'hbt).toNat : Int) == 10) = true
        · go_wp2
          go_ret
          refine ⟨?_, HS.old 1 rfl⟩
          rw [clB_off hk (by rw [u8_eq (x := nm[i]) (y := 10) b10]; rfl)]
          rfl
        · have b10' : ((((bs nm)[i]'hbt).toNat : Int) == 10) = false := by simpa using b10
          by_cases b9 : ((((bs nm)[i]'hbt).toNat : Int) == 9) = true
          · go_wp2
            go_ret
            refine ⟨?_, HS.old 1 rfl⟩
            rw [clB_off hk (by rw [u8_eq (x := nm[i]) (y := 9) b9]; rfl)]
            rfl
          · have b9' : ((((bs nm)[i]'hbt).toNat : Int) == 9) = false := by simpa using b9
            go_wp2
            go_roundg k1
            case measure => omega
            case rel =>
              refine ⟨i + 1, by rw [hwi]; rfl, ⟨by omega, by have := HI.out; omega⟩, ⟨?_⟩, ⟨HS⟩⟩
              rw [clB_take hk, HCL.out, u8_ne (x := nm[i]) (y := 10) b10', u8_ne (x := nm[i]) (y := 9) b9']
              rfl
      · have hkk : i = nm.length := by have := HI.out.1; omega
        subst hkk
        have hkb : decide (nm.length < nm.length) = false := decide_eq_false (Nat.lt_irrefl _)
        have hkb2 : decide ((nm.length : Int) < (nm.length : Int)) = false := decide_eq_false (by omega)
        rw [List.take_length] at HCL
        have HCN := HCL
        clear hkb2 hk HI HCL
        have HN4 := Aside0.mk (show es.length ≤ 9223372036854775807 from H4.out.2.1)
        go_wp2
        clear hsz hkb
        go_loopg [33] (es.length + 1) (fun kq v33 w' => ∃ (i : Nat), v33 = .int .i64 (i : Int) ∧ Aside0 (i ≤ es.length ∧ es.length + 1 ≤ kq + i) ∧ Aside0 ((es.take i).all cleanE = true) ∧
            Aside0 (Sat W w' [blk gb 38 #[.int .i64 k, .int .i64 p0, .int .i64 p1, .string (bs nm), .slice A4 es.length c4, .slice A5 th.length c5, .slice A6 el.length c6], old W]))
        case atStart => exact ⟨0, rfl, ⟨by omega, by omega⟩, ⟨by rw [List.take_zero]; rfl⟩, ⟨HS⟩⟩
        case round =>
          clear HS cb
          obtain ⟨i, rfl, HI, HCL, HS'⟩ := hrel
          have HS := HS'.out
          clear HS'
          cases gk with
          | zero => have := HI.out; omega
          | succ k2 =>
            by_cases hk : i < es.length
            · obtain ⟨I, hI_⟩ : ∃ I : Int, (i : Int) = I := ⟨_, rfl⟩
              have pI : 0 ≤ I := by omega
              have q1 : I < (es.length : Int) := by omega
              have c1_ : decide (I < (es.length : Int)) = true := decide_eq_true q1
              have hbw := HS.old 1 rfl
              obtain ⟨ad, B6, d6, rfl, x0, x1, x2, x3, x4, x5, x6, l6, g6⟩ := at_T31 H4.out I pI q1
              replace x0 := cell_below x0 hbw
              replace x1 := cell_below x1 hbw
              replace x2 := cell_below x2 hbw
              replace x3 := cell_below x3 hbw
              replace x4 := cell_below x4 hbw
              replace x5 := cell_below x5 hbw
              replace x6 := cell_below x6 hbw
              clear hbw
              have hq : rd_T31 es I = es[i] := by rw [← hI_]; exact rdE hk
              obtain ⟨q, hqq⟩ : ∃ q, q = rd_T31 es I := ⟨_, rfl⟩
              rw [← hqq] at x0 x1 x2 x3 x4 x5 x6 l6 g6 hq
              have hmem : q ∈ es := by rw [hq]; exact List.getElem_mem hk
              have HNC := Aside0.mk (fun (w : World) (hb : Below W.heap.size W w) => palingslaw03_names.calls (szE q) q.f0 q.f1.f0 q.f1.f1 q.f2 q.f3 q.f4 B6 d6 q.f5 _ w (Kd.C_below g6 hb) l6 (names_f q (HSZ.out q hmem) (szE q) (Nat.le_refl _)))
              have hwi : wrap64 (I + 1) = I + 1 := w64 _ (by omega) (by have := HN4.out; omega)
              have HQ := Aside0.mk (show ∃ h : i < es.length, q = es[i] from ⟨hk, hq⟩)
              have HII := Aside0.mk (show (i : Int) = I ∧ i < es.length from ⟨hI_, hk⟩)
              rw [hI_]
              have hql : q.f5.length ≤ 9223372036854775807 := g6.2.1
              clear hq hqq hmem hI_ hk g6
              have r1 := eq_true pI
              have r2 := eq_true q1
              go_upto_region 10 with (first | ((with_reducible refine gate_dst (N := 6) rfl ?_); go_must (refine ev_box HS rfl (N := 6) rfl (cs := #[.int .i64 0, .int .i64 0, .int .i64 0, .int .i64 0, .string ⟨#[]⟩, .int .i64 0, .slice none 0 0]) (t := 31) ?hrun ?_); (case hrun => first | (go_simp; done) | (go_simp; rfl)); clear HS; intro g6 w HS) | ((with_reducible refine gate_store (t := 31) (p := 6) rfl ?_); go_must (refine ev_store HS 0 rfl rfl 31 (.tmp 6) (.tmp 36) rfl rfl rfl [.int .i64 q.f0, .int .i64 q.f1.f0, .int .i64 q.f1.f1, .int .i64 q.f2, .string q.f3, .int .i64 q.f4, .slice B6 q.f5.length d6] ?hx (by kernel_rfl) (by rfl) ?h1 ?_); (case hx => first | rfl | (go_simp; done)); (case h1 => simp [Value.oneCell']); clear HS; intro w HS))
              cases hcl : cleanE q with
              | false =>
                rw [hcl] at HNC
                go_wp2_with (first | ((with_reducible refine gate_dst (N := 37) rfl ?_); ((with_reducible refine gate_load (ty := 31) (p := 6) rfl ?_); go_must (refine ev_load HS 0 rfl rfl 31 (.tmp 6) rfl (N := 37) rfl rfl _ Tryd.underlying31 rfl (by kernel_rfl) ?_))) | (go_at_call 30; refine (HNC.out _ (HS.old 2 rfl)).mono ?_; rintro r w_ ⟨rfl, hb⟩; replace HS := HS.below hb; clear hb))
                go_ret
                refine ⟨?_, HS.old 2 rfl⟩
                obtain ⟨hk, hq⟩ := HQ.out
                rw [all_off cleanE hk (by rw [← hq]; exact hcl), Bool.false_and, Bool.and_false]
                rfl
              | true =>
                rw [hcl] at HNC
                go_wp2_with (first | ((with_reducible refine gate_dst (N := 37) rfl ?_); ((with_reducible refine gate_load (ty := 31) (p := 6) rfl ?_); go_must (refine ev_load HS 0 rfl rfl 31 (.tmp 6) rfl (N := 37) rfl rfl _ Tryd.underlying31 rfl (by kernel_rfl) ?_))) | (go_at_call 30; refine (HNC.out _ (HS.old 2 rfl)).mono ?_; rintro r w_ ⟨rfl, hb⟩; replace HS := HS.below hb; clear hb))
                go_roundg k2
                case measure => omega
                case rel =>
                  have h1 := HII.out
                  refine ⟨i + 1, by rw [hwi, ← h1.1]; rfl, ⟨by omega, by have := HI.out; omega⟩, ⟨?_⟩, ⟨HS.tail⟩⟩
                  obtain ⟨hk, hq⟩ := HQ.out
                  rw [all_take cleanE hk, HCL.out, ← hq, hcl]
                  rfl
            · have hkk : i = es.length := by have := HI.out.1; omega
              subst hkk
              have hkb : decide (es.length < es.length) = false := decide_eq_false (Nat.lt_irrefl _)
              have hkb2 : decide ((es.length : Int) < (es.length : Int)) = false := decide_eq_false (by omega)
              rw [List.take_length] at HCL
              have HCE := HCL
              clear hkb2 hk HI HCL
              have cb := HS.cell 0 rfl
              go_upto_region 13 with (fail)
              refine start_ (n := 9) (S := fun w' => ∃ L', Sat W w' (blk gb 38 #[.int .i64 k, .int .i64 p0, .int .i64 p1, .string (bs nm), .slice A4 es.length c4, .slice A5 th.length c5, .slice A6 el.length c6] :: L')) (ds := []) #[false, false, false, false, false, false, false, false, false] (by kernel_rfl) rfl rfl ⟨_, HS.drew⟩ (fun hHeld => ?_)
              replace HS := HS.drew
              generalize World.drew wr = w at HS hHeld ⊢
              refine pure_ (i := 1) (N := some 42) (v := ?_) (a' := ?_) #[false, true, false, false, false, false, false, false, false] rfl rfl (by kernel_rfl) (fun _ _ _ h => h) (Or.inl ⟨by rfl, ?_⟩) ?_ ?_
              rotate_left
              · intro w'
                go_simp
                with_reducible rfl
              rotate_left
              · (try simp only [Act.put, List.setIfInBounds_toArray, List.set_cons_zero, List.set_cons_succ, i64_w, i32_w])
                rfl
              refine take_ (i := 2) (N := some 43) (v := ?_) (a' := ?_) #[false, true, true, false, false, false, false, false, false] rfl rfl (by kernel_rfl) (fun _ _ _ h => h) (Or.inl ⟨by rfl, ?_⟩) hHeld ?_ ?_
              rotate_left
              · rintro w' hS
                obtain ⟨L', hS⟩ := hS
                have cb := hS.cell 0 rfl
                go_simp
                with_reducible rfl
              rotate_left
              · (try simp only [Act.put, List.setIfInBounds_toArray, List.set_cons_zero, List.set_cons_succ, i64_w, i32_w])
                rfl
              refine pure_ (i := 4) (N := some 45) (v := ?_) (a' := ?_) #[false, true, true, false, true, false, false, false, false] rfl rfl (by kernel_rfl) (fun _ _ _ h => h) (Or.inl ⟨by rfl, ?_⟩) ?_ ?_
              rotate_left
              · intro w'
                go_simp
                with_reducible rfl
              rotate_left
              · (try simp only [Act.put, List.setIfInBounds_toArray, List.set_cons_zero, List.set_cons_succ, i64_w, i32_w])
                rfl
              refine take_ (i := 5) (N := some 46) (v := ?_) (a' := ?_) #[false, true, true, false, true, true, false, false, false] rfl rfl (by kernel_rfl) (fun _ _ _ h => h) (Or.inl ⟨by rfl, ?_⟩) hHeld ?_ ?_
              rotate_left
              · rintro w' hS
                obtain ⟨L', hS⟩ := hS
                have cb := hS.cell 0 rfl
                go_simp
                with_reducible rfl
              rotate_left
              · (try simp only [Act.put, List.setIfInBounds_toArray, List.set_cons_zero, List.set_cons_succ, i64_w, i32_w])
                rfl
              refine pure_ (i := 8) (N := some 49) (v := ?_) (a' := ?_) #[false, true, true, false, true, true, false, false, true] rfl rfl (by kernel_rfl) (fun _ _ _ h => h) (Or.inl ⟨by rfl, ?_⟩) ?_ ?_
              rotate_left
              · intro w'
                go_simp
                with_reducible rfl
              rotate_left
              · (try simp only [Act.put, List.setIfInBounds_toArray, List.set_cons_zero, List.set_cons_succ, i64_w, i32_w])
                rfl
              refine one_ (i := 0) (N := some 41) #[true, true, true, false, true, true, false, false, true] rfl rfl (by kernel_rfl) (by decide) (fun K hK => ?_)
              refine ev_lit_step (lent k38 W) (e := 38) HS (by rfl) (N := 41) rfl (xs := []) (inner := []) ?hrun ⟨rfl, fun _ _ h => by cases h⟩ (by simp) ?_
              (case hrun => first | (go_simp; done) | (go_simp; rfl))
              clear HS
              intro gm w HS
              refine hK.out _ _ ⟨_, HS.front 1 rfl⟩ (fun hHeld => ?_)
              clear hK K
              refine norm_ (a' := ?_) ?_ ?_
              rotate_left
              · show Act.put _ _ _ = _
                (try simp only [Act.put, List.setIfInBounds_toArray, List.set_cons_zero, List.set_cons_succ, i64_w, i32_w])
                rfl
              refine one_ (i := 3) (N := some 44) #[true, true, true, true, true, true, false, false, true] rfl rfl (by kernel_rfl) (by decide) (fun K hK => ?_)
              refine ev_append_step (lent k38 W) HS 0 (.tmp 41) (.tmp 43) 36 38 (.agg #[.int .i64 0, .int .i64 0, .int .i64 0, .string ⟨#[]⟩, .slice none 0 0, .slice none 0 0, .slice none 0 0]) 112 rfl (C_lent (HS.old 2 rfl) HT.out) (fun _ _ h => h) (by rfl) (N := 44) rfl rfl (by rfl) (by rfl) Tryd.underlying36 infoS rfl (by show 0 < 7; decide) (by omega) (by have := H8.out; simp only [List.length_nil]; omega) ?_
              clear HS
              intro v1 w HS
              refine hK.out _ _ ⟨_, HS.front 1 rfl⟩ (fun hHeld => ?_)
              clear hK K
              refine norm_ (a' := ?_) ?_ ?_
              rotate_left
              · show Act.put _ _ _ = _
                (try simp only [Act.put, List.setIfInBounds_toArray, List.set_cons_zero, List.set_cons_succ, i64_w, i32_w])
                rfl
              refine one_ (i := 6) (N := some 47) #[true, true, true, true, true, true, true, false, true] rfl rfl (by kernel_rfl) (by decide) (fun K hK => ?_)
              refine ev_append_step (lent k38 W) HS 0 (.tmp 44) (.tmp 46) 36 38 (.agg #[.int .i64 0, .int .i64 0, .int .i64 0, .string ⟨#[]⟩, .slice none 0 0, .slice none 0 0, .slice none 0 0]) 112 rfl (C_lent (HS.old 2 rfl) HE.out) (fun _ _ h => h) (by rfl) (N := 47) rfl rfl (by rfl) (by rfl) Tryd.underlying36 infoS rfl (by show 0 < 7; decide) (by omega) (by have := H8.out; simp only [List.length_append, List.length_nil]; omega) ?_
              clear HS
              intro v2 w HS
              obtain ⟨Ar, cr, rfl⟩ := HS.slice 0 rfl
              refine hK.out _ _ ⟨_, HS.front 1 rfl⟩ (fun hHeld => ?_)
              clear hK K
              refine norm_ (a' := ?_) ?_ ?_
              rotate_left
              · show Act.put _ _ _ = _
                (try simp only [Act.put, List.setIfInBounds_toArray, List.set_cons_zero, List.set_cons_succ, i64_w, i32_w])
                rfl
              refine pure_ (i := 7) (N := some 48) (v := ?_) (a' := ?_) #[true, true, true, true, true, true, true, true, true] rfl rfl (by kernel_rfl) (fun _ _ _ h => h) (Or.inl ⟨by rfl, ?_⟩) ?_ ?_
              rotate_left
              · intro w'
                go_simp
                with_reducible rfl
              rotate_left
              · (try simp only [Act.put, List.setIfInBounds_toArray, List.set_cons_zero, List.set_cons_succ, i64_w, i32_w])
                rfl
              refine done_ (by kernel_rfl) ?_
              clear hHeld

              go_wp2
              have hL8 : ([] ++ th ++ el : List S38) = th ++ el := rfl
              clear hkb
              replace HS : Sat W _ [row (lent k38 W) 38 (.slice Ar ([] ++ th ++ el).length cr) ([] ++ th ++ el), blk gb 38 #[.int .i64 k, .int .i64 p0, .int .i64 p1, .string (bs nm), .slice A4 es.length c4, .slice A5 th.length c5, .slice A6 el.length c6], old W] := HS
              rw [hL8] at HS ⊢
              obtain ⟨ls, hls⟩ : ∃ ls, ls = th ++ el := ⟨_, rfl⟩
              rw [← hls] at HS HP ⊢
              have HLL := Aside0.mk (show ls.length ≤ 16 by have := H8.out; rw [hls, List.length_append]; omega)
              have HLS := Aside0.mk hls
              clear hls hL8
              go_loopg [49] (ls.length + 1) (fun kq v49 w' => ∃ (i : Nat), v49 = .int .i64 (i : Int) ∧ Aside0 (i ≤ ls.length ∧ ls.length + 1 ≤ kq + i) ∧ Aside0 ((ls.take i).all plainS = true) ∧
                  Aside0 (Sat W w' [row (lent k38 W) 38 (.slice Ar ls.length cr) ls, old W]))
              case atStart => exact ⟨0, rfl, ⟨by omega, by omega⟩, ⟨by rw [List.take_zero]; rfl⟩, ⟨HS.erase 1⟩⟩
              case round =>
                clear HS cb
                obtain ⟨i, rfl, HI, HCL, HS'⟩ := hrel
                have HS := HS'.out
                clear HS'
                cases gk with
                | zero => have := HI.out; omega
                | succ k3 =>
                  by_cases hk : i < ls.length
                  · obtain ⟨I, hI_⟩ : ∃ I : Int, (i : Int) = I := ⟨_, rfl⟩
                    have pI : 0 ≤ I := by omega
                    have q1 : I < (ls.length : Int) := by omega
                    have q3 : I < (th.length : Int) + (el.length : Int) := by have h := congrArg List.length HLS.out; rw [List.length_append] at h; omega
                    have c1_ : decide (I < (th.length : Int) + (el.length : Int)) = true := decide_eq_true q3
                    have r3 := eq_true q3
                    obtain ⟨ad, B4, d4, B5, d5, B6, d6, rfl, x0, x1, x2, x3, x4, x5, x6, l4, g4, l5, g5, l6, g6⟩ := lent_at (HS.C 0 rfl) I pI q1
                    have hq : rd_T38 ls I = ls[i] := by rw [← hI_]; exact rdS hk
                    obtain ⟨q, hqq⟩ : ∃ q, q = rd_T38 ls I := ⟨_, rfl⟩
                    rw [← hqq] at x0 x1 x2 x3 x4 x5 x6 l4 g4 l5 g5 l6 g6 hq
                    have hmem : q ∈ ls := by rw [hq]; exact List.getElem_mem hk
                    have HPC := Aside0.mk (fun (w : World) (hb : Below W.heap.size W w) => HP.out q hmem w hb B4 d4 B5 d5 B6 d6 g4 l4 g5 l5 g6 l6)
                    have hwi : wrap64 (I + 1) = I + 1 := w64 _ (by omega) (by have := HLL.out; omega)
                    have HQ := Aside0.mk (show ∃ h : i < ls.length, q = ls[i] from ⟨hk, hq⟩)
                    have HII := Aside0.mk (show (i : Int) = I ∧ i < ls.length from ⟨hI_, hk⟩)
                    rw [hI_]
                    have hql4 : q.f3.length ≤ 9223372036854775807 := g4.2.1
                    have hql5 : q.f4.length ≤ 9223372036854775807 := g5.2.1
                    have hql6 : q.f5.length ≤ 9223372036854775807 := g6.2.1
                    clear hq hqq hmem hI_ hk g4 g5 g6
                    have r1 := eq_true pI
                    have r2 := eq_true q1
                    go_upto_region 16 with (first | ((with_reducible refine gate_dst (N := 8) rfl ?_); go_must (refine ev_box HS rfl (N := 8) rfl (cs := #[.int .i64 0, .int .i64 0, .int .i64 0, .string ⟨#[]⟩, .slice none 0 0, .slice none 0 0, .slice none 0 0]) (t := 38) ?hrun ?_); (case hrun => first | (go_simp; done) | (go_simp; rfl)); clear HS; intro g8 w HS) | ((with_reducible refine gate_store (t := 38) (p := 8) rfl ?_); go_must (refine ev_store HS 0 rfl rfl 38 (.tmp 8) (.tmp 52) rfl rfl rfl [.int .i64 q.f0, .int .i64 q.f1.f0, .int .i64 q.f1.f1, .string q.f2, .slice B4 q.f3.length d4, .slice B5 q.f4.length d5, .slice B6 q.f5.length d6] ?hx (by kernel_rfl) (by rfl) ?h1 ?_); (case hx => first | rfl | (go_simp; done)); (case h1 => simp [Value.oneCell']); clear HS; intro w HS))
                    cases hcl : plainS q with
                    | false =>
                      rw [hcl] at HPC
                      go_wp2_with (first | ((with_reducible refine gate_dst (N := 53) rfl ?_); ((with_reducible refine gate_load (ty := 38) (p := 8) rfl ?_); go_must (refine ev_load HS 0 rfl rfl 38 (.tmp 8) rfl (N := 53) rfl rfl _ Tryd.underlying38 rfl (by kernel_rfl) ?_))) | (go_at_call 15; refine (HPC.out _ (HS.old 2 rfl)).mono ?_; rintro r w_ ⟨rfl, hb⟩; replace HS := HS.below hb; clear hb))
                      go_ret
                      refine ⟨?_, HS.old 2 rfl⟩
                      obtain ⟨hk, hq⟩ := HQ.out
                      rw [← HLS.out, all_off plainS hk (by rw [← hq]; exact hcl), Bool.and_false, Bool.and_false]
                      rfl
                    | true =>
                      rw [hcl] at HPC
                      go_wp2_with (first | ((with_reducible refine gate_dst (N := 53) rfl ?_); ((with_reducible refine gate_load (ty := 38) (p := 8) rfl ?_); go_must (refine ev_load HS 0 rfl rfl 38 (.tmp 8) rfl (N := 53) rfl rfl _ Tryd.underlying38 rfl (by kernel_rfl) ?_))) | (go_at_call 15; refine (HPC.out _ (HS.old 2 rfl)).mono ?_; rintro r w_ ⟨rfl, hb⟩; replace HS := HS.below hb; clear hb))
                      go_roundg k3
                      case measure => omega
                      case rel =>
                        have h1 := HII.out
                        refine ⟨i + 1, by rw [hwi, ← h1.1]; rfl, ⟨by omega, by have := HI.out; omega⟩, ⟨?_⟩, ⟨HS.tail⟩⟩
                        obtain ⟨hk, hq⟩ := HQ.out
                        rw [all_take plainS hk, HCL.out, ← hq, hcl]
                        rfl
                  · have hkk : i = ls.length := by have := HI.out.1; omega
                    subst hkk
                    have hkb : decide (ls.length < ls.length) = false := decide_eq_false (Nat.lt_irrefl _)
                    have q3 : ¬ ((ls.length : Int) < (th.length : Int) + (el.length : Int)) := by have h := congrArg List.length HLS.out; rw [List.length_append] at h; omega
                    have hkb2 : decide ((ls.length : Int) < (th.length : Int) + (el.length : Int)) = false := decide_eq_false q3
                    have r3 := eq_false q3
                    rw [List.take_length] at HCL
                    have hxs := bs_size X
                    have hxp : decide (0 < (bs X).size) = true := decide_eq_true (by have := HXL.out; omega)
                    clear hxs
                    clear hk HI
                    go_wp2
                    go_ret
                    refine ⟨?_, HS.old 1 rfl⟩
                    have e : (th ++ el).all plainS = true := by rw [← HLS.out]; exact HCL.out
                    rw [List.all_append] at e
                    rw [HCN.out, HCE.out, e]
                    rfl
/-- plain. -/
theorem plain_calls : ∀ s : S38, PlainC s
  | ⟨k, ⟨p0, p1⟩, name, es, th, el⟩ => by
    have ihT : ∀ t ∈ th, PlainC t := fun t ht => plain_calls t
    have ihE : ∀ t ∈ el, PlainC t := fun t he => plain_calls t
    intro W A4 c4 A5 c5 A6 c6 hG hok hpl hC4 l4 hC5 l5 hC6 l6
    dsimp only at hC4 l4 hC5 l5 hC6 l6 ⊢
    rw [plR] at hpl
    obtain ⟨hro, ⟨ht8, hpt⟩, ⟨he8, hpe⟩⟩ := hpl
    have hro' := hro
    rw [roomS] at hro'
    obtain ⟨_, hnm, hsz, _, _⟩ := hro'
    have hok' := hok
    rw [okS] at hok'
    have h := plain_step (k := k) (p0 := p0) (p1 := p1) (nm := name.data.toList) (X := txtS 0 ⟨k, ⟨p0, p1⟩, name, es, th, el⟩) (A4 := A4) (c4 := c4) (A5 := A5) (c5 := c5) (A6 := A6) (c6 := c6) (es := es) (th := th) (el := el) W hnm (txtS_pos 0 _)
      ⟨fun w hb => texts_calls ⟨k, ⟨p0, p1⟩, name, es, th, el⟩ w 0 A4 c4 A5 c5 A6 c6 (hG.below hb) hok hro (Kd.C_below hC4 hb) l4 (Kd.C_below hC5 hb) l5 (Kd.C_below hC6 hb) l6⟩
      ⟨hC4⟩ ⟨hsz⟩ ⟨hC5⟩ ⟨hC6⟩ ⟨⟨ht8, he8⟩⟩ ⟨fun s hs w hb B4 d4 B5 d5 B6 d6 g4 m4 g5 m5 g6 m6 => ?_⟩
    · rw [plainS, cleanL_all, plainSs_all, plainSs_all]
      rw [List.all_append] at h
      exact h
    · rcases List.mem_append.1 hs with hs | hs
      · exact ihT s hs w B4 d4 B5 d5 B6 d6 (hG.below hb) (okSs_mem hok'.2.1 hs) (plRs_mem hpt hs) (Kd.C_below g4 hb) m4 (Kd.C_below g5 hb) m5 (Kd.C_below g6 hb) m6
      · exact ihE s hs w B4 d4 B5 d5 B6 d6 (hG.below hb) (okSs_mem hok'.2.2 hs) (plRs_mem hpe hs) (Kd.C_below g4 hb) m4 (Kd.C_below g5 hb) m5 (Kd.C_below g6 hb) m6
termination_by s => SizeOf.sizeOf s
decreasing_by
  · have := List.sizeOf_lt_of_mem ht
    simp only [S38.mk.sizeOf_spec]
    omega
  · have := List.sizeOf_lt_of_mem he
    simp only [S38.mk.sizeOf_spec]
    omega
end Go.Proofs.YtaammdmaldodaaaDoor.B
