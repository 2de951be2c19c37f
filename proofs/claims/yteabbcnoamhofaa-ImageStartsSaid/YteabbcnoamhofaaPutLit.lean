/- image.put on the row of a constant string's bytes: a full row that bears the run-time's mark. -/
import Derived.Test.YteabbcnoamhofaaBx2
import Derived.Test.YteabbcnoamhofaaMine
import Derived.ArgAppend
namespace Go.Proofs.Yteabbcnoamhofaa.B
open Go.RowKit Go.Proofs.Yteabbcnoamhofaa.Mine Go.Proofs.YteabbcnoamhofaaW.PrintWords Go.Proofs.YteabbcnoamhofaaW.PrintLast Go.Proofs.YteabbcnoamhofaaW.PrintMore
set_option linter.unusedVariables false
set_option linter.unusedSimpArgs false
def lit4 : Array Value := #[.int .u8 112, .int .u8 97, .int .u8 108, .int .u8 49]
theorem cell_marked {w : World} {g : Nat} {cs : Array Value} {t : TypeId} {fz : Nat × Nat} (h : w.heap[g]? = some (.cells cs t fz)) (j : Nat) : w.cell? ⟨g, j, none⟩ = cs[j]? := by
  simp [World.cell?, h]
theorem own_slice4 {w : World} {base : Nat} {e : TypeId} {v : Value} {ys : List Int} (h : w.ownsRow base e 1 v ys.length (encs (Value.int .u8) ys)) (hl : ys.length = 4) : ∃ g c, v = .slice (some ⟨g, 0, none⟩) ys.length c := by
  rcases h.2 with ⟨_, h0⟩ | ⟨g, cap, cur, hv, _⟩
  · omega
  · exact ⟨g, cap, hv⟩
set_option maxHeartbeats 4000000 in
set_option maxRecDepth 100000 in
theorem put_lit (g : Nat) (n : Int) (w : World) (hbk : w.heap[g]? = some (.cells lit4 5 (4, 5))) :
    Calls Try.prog 23 #[.slice (some ⟨g, 0, none⟩) 4 4, .int .i64 n] w fun e w' => ∃ v, e = .returned v ∧ Kd.R (Kd.int .u8) 5 w' w.heap.size (fun _ => True) v ([112, 97, 108, 49] ++ [n % 256, n / 256 % 256, n / 65536 % 256, n / 16777216 % 256]) ∧ Below w.heap.size w w' := by
  have HB := Aside0.mk (Below.refl w.heap.size w)
  have BK := Aside0.mk hbk
  clear hbk
  obtain ⟨ys, hys⟩ : ∃ y : List Int, y = [n % 256, n / 256 % 256, n / 65536 % 256, n / 16777216 % 256] := ⟨_, rfl⟩
  rw [← hys]
  have NY := Aside0.mk hys
  have LY := Aside0.mk (show ys.length = 4 by rw [hys]; rfl)
  clear hys
  obtain ⟨i0, hi0, hzz⟩ := Option.map_eq_some_iff.1 info5
  simp only [Prod.mk.injEq] at hzz
  have HI := Aside0.mk hi0
  have HZ := Aside0.mk hzz
  clear hi0 hzz
  go_enter Try.func23, Try.ntmps23
  go_wp2_with (first | ((with_reducible refine gate_dst (N := 17) rfl ?_); refine Kd.R_lit (Kd.int .u8) _ 5 ?hg (N := 17) ?hd (xs := ([n % 256, n / 256 % 256, n / 65536 % 256, n / 16777216 % 256] : List Int)) (inner := [.int .u8 (n % 256), .int .u8 (n / 256 % 256), .int .u8 (n / 65536 % 256), .int .u8 (n / 16777216 % 256)]) (ok := fun _ => True) (okp := fun _ => True) ?hr ?hp (fun _ hk => hk) trivial (Below.refl _ _) (Nat.le_refl _) (by simp) ?_; (case hd => rfl); (case hg => rfl); (case hr => first | (go_simp; done) | (go_simp; rfl)); (case hp => exact (Reps.one (show Kd.M (Kd.int .u8) _ _ _ (n % 256) [.int .u8 (n % 256)] from rfl) (Reps.one (show Kd.M (Kd.int .u8) _ _ _ (n / 256 % 256) [.int .u8 (n / 256 % 256)] from rfl) (Reps.one (show Kd.M (Kd.int .u8) _ _ _ (n / 65536 % 256) [.int .u8 (n / 65536 % 256)] from rfl) (Reps.one (show Kd.M (Kd.int .u8) _ _ _ (n / 16777216 % 256) [.int .u8 (n / 16777216 % 256)] from rfl) (Reps.none _ _)))))); intro v119 w4 ho5 hb hg_ hnew_; clear hg_ hnew_; rw [← NY.out] at ho5; have n0_ := Aside0.mk (blk_below (g := g) (o := .cells lit4 5 (4, 5)) (by (with_reducible repeat (first | refine blk_drewN ?_ _ | refine blk_drew ?_ | refine blk_alloc ?_ _)); exact BK.out) hb); have n1_ := Aside0.mk (below_step (by repeat (first | (with_reducible first | exact HB.out | apply below_alloc | apply pw_below_drewN | apply below_drew1) | exact HB.out)) hb); clear BK HB; have BK := n0_; have HB := n1_; clear n0_ n1_; have HO := Aside0.mk (Kd.own_of_R ho5); clear ho5 hb; obtain ⟨g2, c2, rfl⟩ := own_slice4 HO.out LY.out; have HC := Aside0.mk (fun j u hj => HO.out.cells (g := g2) rfl j u hj)) | ((with_reducible refine gate_builtin (b := .append) (xs := #[.tmp 5, .tmp 17]) rfl ?_); at_builtin; refine Aside0.out (?_ : Aside0 _)))
  refine ⟨?_⟩
  refine wpList_append_grows _ rfl (.tmp 5) (.tmp 17) 41 rfl 5 i0 (.int .u8 0) 1 1 Try.underlying41 HI.out HZ.out.1 HZ.out.2.1 HZ.out.2.2 rfl (by decide) (some ⟨g, 0, none⟩) 4 4 lit4.toList rfl (fun h => by cases h) rfl (fun b hb j u hj => ?aO) ⟨g2, 0, none⟩ ys.length c2 (encs (Value.int .u8) ys) rfl (by simp [encs]) (fun j u hj => ?aN) (fun u hu => ?aU) ?aF ?aL ?aM ?_
  (case aO => cases hb; rw [Addr.add_lit, Nat.zero_add]; exact (cell_marked BK.out j).trans (by rw [← hj]; exact Array.getElem?_toList.symm))
  (case aN => exact HC.out j u hj)
  (case aU => simp [encs] at hu; obtain ⟨x, _, rfl⟩ := hu; rfl)
  (case aF => have := LY.out; omega)
  (case aL => have := LY.out; unfold maxLen; omega)
  (case aM => have := LY.out; omega)
  intro v1 w1 hown hgr
  have n0_ := Aside0.mk (pw_below_grown HB.out none (below_size HB.out) hgr (fun k hk => by cases hk))
  have n1_ := Aside0.mk hown
  have n2_ := Aside0.mk (below_size HB.out)
  clear HB
  have HB := n0_
  have HO1 := n1_
  have HS := n2_
  clear n0_ n1_ n2_ hown hgr
  go_wp2
  go_ret
  refine ⟨_, rfl, ?_, HB.out⟩
  have hl : (([112, 97, 108, 49] : List Int) ++ ys).length = 4 + ys.length := by simp; omega
  have ho : w1.ownsRow w4.heap.size 5 1 v1 (([112, 97, 108, 49] : List Int) ++ ys).length (encs (Value.int .u8) ([112, 97, 108, 49] ++ ys)) := by
    rw [hl, encs_append]
    exact HO1.out
  exact Kd.R_lower (Kd.R_of_own ho (fun _ _ => trivial)) HS.out
end Go.Proofs.Yteabbcnoamhofaa.B
