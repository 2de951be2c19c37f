/- lines, Stmt.Text. -/
import Derived.Test.YtaammdmaldodaaaDoorAstArm
namespace Go.Proofs.YtaammdmaldodaaaDoor.B
open Go.RowKit Go.Proofs.YtaammdmaldodaaaDoor.Mine Go.Proofs.YtaammdmaldodaaaDoor.Sep Go.Proofs.YtaammdmaldodaaaDoorW.PrintWords Go.Proofs.YtaammdmaldodaaaDoorW.PrintLast Go.Proofs.YtaammdmaldodaaaDoorW.PrintMore
set_option linter.unusedVariables false
set_option linter.unusedSimpArgs false
theorem rdS {l : List S38} {i : Nat} (h : i < l.length) : rd_T38 l (i : Int) = l[i] := by
  unfold rd_T38; rw [Int.toNat_natCast, List.getD_eq_getElem?_getD, List.getElem?_eq_getElem h]; rfl
def TextS (s : S38) : Prop := ∀ (W : World) (d : Nat) (A4 : Option Addr) (c4 : Nat) (A5 : Option Addr) (c5 : Nat) (A6 : Option Addr) (c6 : Nat), GL W → okS s → roomS d s → Kd.C k31 W A4 s.f3.length s.f3 → s.f3.length ≤ c4 → Kd.C k38 W A5 s.f4.length s.f4 → s.f4.length ≤ c5 → Kd.C k38 W A6 s.f5.length s.f5 → s.f5.length ≤ c6 →
    Calls Tryd.prog 16 #[.agg #[.int .i64 s.f0, .int .i64 s.f1.f0, .int .i64 s.f1.f1, .string s.f2, .slice A4 s.f3.length c4, .slice A5 s.f4.length c5, .slice A6 s.f5.length c6], .int .i64 (d : Int)] W fun r w' => r = .returned (.string (bs (txtS d s))) ∧ Below W.heap.size W w'
def LinesC (l : List S38) : Prop := ∀ (W : World) (d : Nat) (A : Option Addr) (c : Nat), GL W → okSs l → roomSs d l → (txtSs d l).length ≤ BX → Kd.C k38 W A l.length l → l.length ≤ c →
    Calls Tryd.prog 33 #[.slice A l.length c, .int .i64 (d : Int)] W fun r w' => r = .returned (.string (bs (txtSs d l))) ∧ Below W.heap.size W w'
theorem txt_take (d : Nat) {l : List S38} {i : Nat} (h : i < l.length) : txtSs d (l.take (i + 1)) = txtSs d (l.take i) ++ txtS d l[i] := by
  rw [txtSs_eq, txtSs_eq, List.take_succ_eq_append_getElem h, List.map_append, List.flatten_append]
  simp
theorem txt_take_le (d : Nat) (l : List S38) (i : Nat) : (txtSs d (l.take i)).length ≤ (txtSs d l).length := by
  have h := congrArg List.length (show txtSs d (l.take i) ++ txtSs d (l.drop i) = txtSs d l from by rw [txtSs_eq, txtSs_eq, txtSs_eq, ← List.flatten_append, ← List.map_append, List.take_append_drop])
  rw [List.length_append] at h
  omega
set_option maxRecDepth 100000 in
set_option maxHeartbeats 4000000 in
theorem lines_all (l : List S38) (ih : ∀ s ∈ l, TextS s) : LinesC l := by
  intro W d A c hG hok hro hbx hC hcap
  have HS := Sat.start W
  have hn := hC.2.1
  obtain ⟨D, hD⟩ : ∃ D : Int, (d : Int) = D := ⟨_, rfl⟩
  have HD := Aside0.mk hD
  rw [hD]
  have HIH := Aside0.mk ih
  have HOK := Aside0.mk hok
  have HRO := Aside0.mk hro
  have HBX := Aside0.mk hbx
  have HC := Aside0.mk hC
  have HN := Aside0.mk (show l.length ≤ 9223372036854775807 from hn)
  clear ih hok hro hbx hC hcap hD hn
  go_enter Tryd.func33, Tryd.ntmps33
  go_upto_region 2 with ((with_reducible refine gate_dst (N := 5) rfl ?_); go_must (refine ev_box HS rfl (N := 5) rfl (cs := #[.pointer none, .slice none 0 0]) (t := 73) ?hrun ?_); (case hrun => first | (go_simp; done) | (go_simp; rfl)); clear HS; intro gb w HS)
  replace HS := Sat.builder HS 0 rfl
  change Sat W _ [bld gb [], old W] at HS
  go_wp2
  go_loopg [10] (l.length + 1) (fun kq v10 w' => ∃ (i : Nat), v10 = .int .i64 (i : Int) ∧ Aside0 (i ≤ l.length ∧ l.length + 1 ≤ kq + i) ∧
      Aside0 (Sat W w' [bld gb (txtSs d (l.take i)), old W]))
  case atStart => exact ⟨0, rfl, ⟨by omega, by omega⟩, ⟨by rw [List.take_zero, txtSs]; exact HS⟩⟩
  case round =>
    clear HS
    obtain ⟨i, rfl, HI, HS'⟩ := hrel
    have HS := HS'.out
    clear HS'
    cases gk with
    | zero => have := HI.out; omega
    | succ k1 =>
      obtain ⟨R, hR⟩ : ∃ R, R = txtSs d (l.take i) := ⟨_, rfl⟩
      rw [← hR] at HS
      by_cases hk : i < l.length
      · obtain ⟨I, hI_⟩ : ∃ I : Int, (i : Int) = I := ⟨_, rfl⟩
        have p1 : 0 ≤ I := by omega
        have q1 : I < (l.length : Int) := by omega
        have c1_ : decide (I < (l.length : Int)) = true := decide_eq_true q1
        have hbw := HS.old 1 rfl
        obtain ⟨ad, B4, d4, B5, d5, B6, d6, rfl, x0, x1, x2, x3, x4, x5, x6, l4, g4, l5, g5, l6, g6⟩ := at_T38 HC.out I p1 q1
        replace x0 := cell_below x0 hbw
        replace x1 := cell_below x1 hbw
        replace x2 := cell_below x2 hbw
        replace x3 := cell_below x3 hbw
        replace x4 := cell_below x4 hbw
        replace x5 := cell_below x5 hbw
        replace x6 := cell_below x6 hbw
        clear hbw
        have hq : rd_T38 l I = l[i] := by rw [← hI_]; exact rdS hk
        obtain ⟨q, hqq⟩ : ∃ q, q = rd_T38 l I := ⟨_, rfl⟩
        rw [← hqq] at x0 x1 x2 x3 x4 x5 x6 l4 g4 l5 g5 l6 g6 hq
        have hmem : q ∈ l := by rw [hq]; exact List.getElem_mem hk
        have HIQ := HIH.out q hmem
        have HQ := Aside0.mk (show txtSs d (l.take (i + 1)) = R ++ txtS d q from by rw [txt_take d hk, hR, hq])
        have hlen : R.length + (txtS d q).length ≤ 140737488355328 := by
          have h1 := txt_take_le d l (i + 1)
          rw [HQ.out, List.length_append] at h1
          have := HBX.out
          have := bx_le
          omega
        have HTX := Aside0.mk (fun (w : World) (hb : Below W.heap.size W w) => HIQ w d B4 d4 B5 d5 B6 d6 (hG.below hb) (okSs_mem HOK.out hmem) (roomSs_mem HRO.out hmem) (Kd.C_below g4 hb) l4 (Kd.C_below g5 hb) l5 (Kd.C_below g6 hb) l6)
        rw [HD.out] at HTX
        obtain ⟨X, hX⟩ : ∃ X, X = txtS d q := ⟨_, rfl⟩
        rw [← hX] at HTX HQ hlen
        have HLN := Aside0.mk hlen
        have hwi : wrap64 (I + 1) = I + 1 := w64 _ (by omega) (by have := HN.out; omega)
        have HII := Aside0.mk (show (i : Int) = I ∧ i < l.length from ⟨hI_, hk⟩)
        rw [hI_]
        clear hq hqq hmem HIQ hI_ hk g4 g5 g6 hR hX hlen
        have r1 := eq_true p1
        have r2 := eq_true q1
        go_upto_region 5 with (first | ((with_reducible refine gate_dst (N := 7) rfl ?_); go_must (refine ev_box HS rfl (N := 7) rfl (cs := #[.int .i64 0, .int .i64 0, .int .i64 0, .string ⟨#[]⟩, .slice none 0 0, .slice none 0 0, .slice none 0 0]) (t := 38) ?hrun ?_); (case hrun => first | (go_simp; done) | (go_simp; rfl)); clear HS; intro g7 w HS) | ((with_reducible refine gate_store (t := 38) (p := 7) rfl ?_); go_must (refine ev_store HS 0 rfl rfl 38 (.tmp 7) (.tmp 13) rfl rfl rfl [.int .i64 q.f0, .int .i64 q.f1.f0, .int .i64 q.f1.f1, .string q.f2, .slice B4 q.f3.length d4, .slice B5 q.f4.length d5, .slice B6 q.f5.length d6] ?hx (by kernel_rfl) (by rfl) ?h1 ?_); (case hx => first | rfl | (go_simp; done)); (case h1 => simp [Value.oneCell']); clear HS; intro w HS))
        go_upto_region 6 with (first | ((with_reducible refine gate_dst (N := 14) rfl ?_); ((with_reducible refine gate_load (ty := 38) (p := 7) rfl ?_); go_must (refine ev_load HS 0 rfl rfl 38 (.tmp 7) rfl (N := 14) rfl rfl _ Tryd.underlying38 rfl (by kernel_rfl) ?_))) | (go_at_call 16; refine (HTX.out _ (HS.old 2 rfl)).mono ?_; rintro e w_ ⟨rfl, hb⟩; replace HS := HS.below hb; clear hb) | (go_at_call 37; refine (write_calls 1 rfl X HLN.out HS).mono ?_; rintro e w_ ⟨rfl, HS_⟩; clear HS; have HS := HS_; clear HS_))
        go_wp2
        go_roundg k1
        case measure => omega
        case rel =>
          have h1 := HII.out
          refine ⟨i + 1, by rw [hwi, ← h1.1]; rfl, ⟨by omega, by have := HI.out; omega⟩, ⟨?_⟩⟩
          rw [HQ.out]
          exact HS.tail
      · have hkk : i = l.length := by have := HI.out.1; omega
        subst hkk
        have hkb : decide (l.length < l.length) = false := decide_eq_false (Nat.lt_irrefl _)
        have hkb2 : decide ((l.length : Int) < (l.length : Int)) = false := decide_eq_false (by omega)
        have hte : l.take l.length = l := List.take_length
        rw [hte] at hR
        have HRR := Aside0.mk hR
        clear hte hk hR
        go_wp2_with (go_at_call 39; refine (string_calls 0 rfl 1 rfl (by decide) HS).mono ?_; rintro e w_ ⟨rfl, hb⟩; clear HS)
        go_ret
        exact ⟨ret_bs HRR.out, by assumption⟩
end Go.Proofs.YtaammdmaldodaaaDoor.B
