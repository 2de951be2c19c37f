/- Stmt.at, Stmt.Text, lines. -/
import Derived.Test.YtaammdmaldodaaaDoorAstStmtP
namespace Go.Proofs.YtaammdmaldodaaaDoor.B
open Go.RowKit Go.Proofs.YtaammdmaldodaaaDoor.Mine Go.Proofs.YtaammdmaldodaaaDoor.Sep Go.Proofs.YtaammdmaldodaaaDoorW.PrintWords Go.Proofs.YtaammdmaldodaaaDoorW.PrintLast Go.Proofs.YtaammdmaldodaaaDoorW.PrintMore
set_option linter.unusedVariables false
set_option linter.unusedSimpArgs false
section
variable {p0 p1 : Int} {nm : List UInt8} {A4 : Option Addr} {c4 : Nat} {A5 : Option Addr} {c5 : Nat} {A6 : Option Addr} {c6 : Nat} {es : List S31} {th el : List S38}
set_option maxRecDepth 100000 in
set_option maxHeartbeats 2000000 in
theorem at_no (K i : Int) (W : World) (hi : (es.length : Int) ≤ i) :
    Calls Tryd.prog 32 #[.agg #[.int .i64 K, .int .i64 p0, .int .i64 p1, .string (bs nm), .slice A4 es.length c4, .slice A5 th.length c5, .slice A6 el.length c6], .int .i64 i] W fun r w' => r = .returned (.string (bs [63])) ∧ Below W.heap.size W w' := by
  have HS := Sat.start W
  have c0 : decide ((es.length : Int) ≤ i) = true := decide_eq_true hi
  go_enter Tryd.func32, Tryd.ntmps32
  go_upto_region 1 with ((with_reducible refine gate_dst (N := 2) rfl ?_); go_must (refine ev_box HS rfl (N := 2) rfl (cs := #[.int .i64 K, .int .i64 p0, .int .i64 p1, .string (bs nm), .slice A4 es.length c4, .slice A5 th.length c5, .slice A6 el.length c6]) (t := 38) ?hrun ?_); (case hrun => first | (go_simp; done) | (go_simp; rfl)); clear HS; intro gb w HS)
  have cb := HS.cell 0 rfl
  go_wp2
  go_ret
  exact ⟨rfl, HS.old 1 rfl⟩
set_option maxRecDepth 100000 in
set_option maxHeartbeats 2000000 in
theorem at_yes (K i : Int) (W : World) (hG : GL W) (h0 : 0 ≤ i) (hi : i < (es.length : Int)) (hC : Kd.C k31 W A4 es.length es) (hok : okL es) (hsz : ∀ e ∈ es, szE e ≤ MX) :
    Calls Tryd.prog 32 #[.agg #[.int .i64 K, .int .i64 p0, .int .i64 p1, .string (bs nm), .slice A4 es.length c4, .slice A5 th.length c5, .slice A6 el.length c6], .int .i64 i] W fun r w' => r = .returned (.string (bs (txtE (rd_T31 es i)))) ∧ Below W.heap.size W w' := by
  have HS := Sat.start W
  obtain ⟨ad, B6, d6, rfl, X0, X1, X2, X3, X4, X5, X6, l6, g6⟩ := at_T31 hC i h0 hi
  have hq : rd_T31 es i = es[i.toNat]'(by omega) := by
    have h := rdE (kids := es) (i := i.toNat) (by omega)
    rw [show ((i.toNat : Nat) : Int) = i by omega] at h
    exact h
  obtain ⟨q, hqq⟩ : ∃ q, q = rd_T31 es i := ⟨_, rfl⟩
  rw [← hqq] at X0 X1 X2 X3 X4 X5 X6 l6 g6 hq ⊢
  have hm : q ∈ es := by rw [hq]; exact List.getElem_mem _
  have HT := Aside0.mk (fun (w : World) (hb : Below W.heap.size W w) => text_calls q w B6 d6 (hG.below hb) (okL_mem hok hm) (hsz q hm) (Kd.C_below g6 hb) l6)
  have c0 : decide ((es.length : Int) ≤ i) = false := decide_eq_false (by omega)
  have r1 := eq_true h0
  have r2 := eq_true hi
  clear hq hqq hm hok hsz hC l6 g6
  replace X0 := Aside0.mk X0
  replace X1 := Aside0.mk X1
  replace X2 := Aside0.mk X2
  replace X3 := Aside0.mk X3
  replace X4 := Aside0.mk X4
  replace X5 := Aside0.mk X5
  replace X6 := Aside0.mk X6
  go_enter Tryd.func32, Tryd.ntmps32
  go_upto_region 1 with ((with_reducible refine gate_dst (N := 2) rfl ?_); go_must (refine ev_box HS rfl (N := 2) rfl (cs := #[.int .i64 K, .int .i64 p0, .int .i64 p1, .string (bs nm), .slice (some ad) es.length c4, .slice A5 th.length c5, .slice A6 el.length c6]) (t := 38) ?hrun ?_); (case hrun => first | (go_simp; done) | (go_simp; rfl)); clear HS; intro gb w HS)
  have cb := HS.cell 0 rfl
  have hbw := HS.old 1 rfl
  have x0 := cell_below X0.out hbw
  have x1 := cell_below X1.out hbw
  have x2 := cell_below X2.out hbw
  have x3 := cell_below X3.out hbw
  have x4 := cell_below X4.out hbw
  have x5 := cell_below X5.out hbw
  have x6 := cell_below X6.out hbw
  clear hbw
  go_wp2_with (go_at_call 22; refine (HT.out _ (HS.old 1 rfl)).mono ?_; rintro e w_ ⟨rfl, hb⟩; replace HS := HS.below hb; clear hb)
  go_ret
  exact ⟨rfl, HS.old 1 rfl⟩
theorem at_calls (K : Int) (i : Nat) (W : World) (hG : GL W) (hC : Kd.C k31 W A4 es.length es) (hok : okL es) (hsz : ∀ e ∈ es, szE e ≤ MX) :
    Calls Tryd.prog 32 #[.agg #[.int .i64 K, .int .i64 p0, .int .i64 p1, .string (bs nm), .slice A4 es.length c4, .slice A5 th.length c5, .slice A6 el.length c6], .int .i64 (i : Int)] W fun r w' => r = .returned (.string (bs ((es.map txtE).getD i [63]))) ∧ Below W.heap.size W w' := by
  by_cases h : i < es.length
  · have h2 := at_yes (p0 := p0) (p1 := p1) (nm := nm) (c4 := c4) (A5 := A5) (c5 := c5) (A6 := A6) (c6 := c6) (th := th) (el := el) K (i : Int) W hG (by omega) (by omega) hC hok hsz
    rw [rdE h] at h2
    rw [List.getD_eq_getElem?_getD, List.getElem?_map, List.getElem?_eq_getElem h]
    exact h2
  · rw [List.getD_eq_getElem?_getD, List.getElem?_map, List.getElem?_eq_none (by omega)]
    exact at_no K (i : Int) W (by omega)
end
end Go.Proofs.YtaammdmaldodaaaDoor.B
