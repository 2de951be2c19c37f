/- What is seen of an image by deeds on two inputs; the document's example. -/
import Derived.Test.YtkgoljbimblkhaaTwinRun
namespace Go.Proofs.Ytkgoljbimblkhaa.B
open Go.RowKit Go.Proofs.Ytkgoljbimblkhaa.Mine Go.Proofs.Ytkgoljbimblkhaa.Sep Go.Proofs.YtkgoljbimblkhaaW.PrintWords Go.Proofs.YtkgoljbimblkhaaW.PrintLast Go.Proofs.YtkgoljbimblkhaaW.PrintMore
set_option linter.unusedVariables false
set_option linter.unusedSimpArgs false
section
variable {W0 w : World} {L : List Chunk} {Ac : Option Addr} {cc : Nat} {code : List S56} {Aa : Option Addr} {ca : Nat} {arrs : List S60} {st me win : Int} {Ai : Option Addr} {ci : Nat} {ins : List (List Int)} {Aj : Option Addr} {cj : Nat} {jns : List (List Int)} {As : Option Addr} {cs : Nat} {script : List (Int × Int)}

set_option maxRecDepth 100000 in
set_option maxHeartbeats 2000000 in
theorem told_no (hC : ∀ L, Img L W0 Ac cc code Aa ca arrs Ai ci ins → ∀ w, Sat W0 w L → Calls Try.prog 13 #[.agg #[.slice Ac code.length cc, .slice Aa arrs.length ca, .int .i64 st, .int .i64 me], .slice Ai ins.length ci, .int .i64 win, .slice As script.length cs] w fun e w' => e = .returned (.tuple #[.pointer none, .slice none 0 0, .int .i64 1]) ∧ Sat W0 w' L)
    (hI : Img L W0 Ac cc code Aa ca arrs Ai ci ins) (HS : Sat W0 w L) :
    Calls Try.prog 8 #[.agg #[.slice Ac code.length cc, .slice Aa arrs.length ca, .int .i64 st, .int .i64 me, .slice Ai ins.length ci, .slice Aj jns.length cj], .int .i64 win, .slice As script.length cs] w fun e w' => e = .returned (.tuple #[.agg made0, .int .i64 1]) ∧ Sat W0 w' L := by
  have HCC := Aside0.mk hC
  clear hC
  go_enter Try.func8, Try.ntmps8
  go_upto_region 1 with (first | ((with_reducible refine gate_dst (N := 3) rfl ?_); go_must (refine ev_box HS rfl (N := 3) rfl (cs := #[.slice Ac code.length cc, .slice Aa arrs.length ca, .int .i64 st, .int .i64 me, .slice Ai ins.length ci, .slice Aj jns.length cj]) (t := 30) ?hrun ?_); (case hrun => first | (go_simp; done) | (go_simp; rfl)); clear HS; intro gb w HS) | ((with_reducible refine gate_dst (N := 6) rfl ?_); go_must (refine ev_box HS rfl (N := 6) rfl (cs := made0) (t := 33) ?hrun ?_); (case hrun => first | (go_simp; done) | (go_simp; rfl)); clear HS; intro g4 w HS))
  have cb := HS.cell 1 rfl
  have HR := Aside0.mk (HCC.out _ ((hI.cons _).cons _) _ HS)
  go_upto_region 2 with (first | ((with_reducible refine gate_load (ty := 25) (p := 14) rfl ?_); go_must (refine ev_load_part HS 1 rfl rfl 25 (.tmp 14) rfl (N := 15) rfl 0 rfl _ Try.underlying25 rfl [.slice Ac code.length cc, .slice Aa arrs.length ca, .int .i64 st, .int .i64 me] (by kernel_rfl) part4 ?_)) | (go_at_call 13; refine HR.out.mono ?_; rintro e w_ ⟨rfl, HS_⟩; clear HS HR; have HS := HS_; clear HS_))
  go_wp2_with ((with_reducible refine gate_store (t := 33) (p := 6) rfl ?_); go_must (refine ev_store HS 0 rfl rfl 33 (.tmp 6) (.tmp 26) rfl rfl rfl [.int .i64 0, .bool false, .slice none 0 0, .slice none 0 0] ?hx (by kernel_rfl) (by rfl) ?h1 ?_); (case hx => first | rfl | (go_simp; done)); (case h1 => simp [Value.oneCell']); clear HS; intro w HS)
  exact bodyPost_ret (v := .tuple #[.agg made0, .int .i64 1]) (results_ct Try.results8 _ _ g4 _ _ (0, 0) _ rfl (HS.blk 0 rfl) Try.underlying33 rfl info33) rfl ⟨rfl, HS.tail.tail⟩
theorem told_bad {k : Nat} (hr : Aside0 (image_Image_Right.f k code arrs st me = some false)) (hI : Img L W0 Ac cc code Aa ca arrs Ai ci ins) (HS : Sat W0 w L) :
    Calls Try.prog 8 #[.agg #[.slice Ac code.length cc, .slice Aa arrs.length ca, .int .i64 st, .int .i64 me, .slice Ai ins.length ci, .slice Aj jns.length cj], .int .i64 win, .slice As script.length cs] w fun e w' => e = .returned (.tuple #[.agg made0, .int .i64 1]) ∧ Sat W0 w' L :=
  told_no (fun L hI w HS => srun_bad hI hr HS) hI HS
theorem told_window (hF : Fine code arrs st me ins) (hw : win < 1 ∨ 1000 < win) (hI : Img L W0 Ac cc code Aa ca arrs Ai ci ins) (HS : Sat W0 w L) :
    Calls Try.prog 8 #[.agg #[.slice Ac code.length cc, .slice Aa arrs.length ca, .int .i64 st, .int .i64 me, .slice Ai ins.length ci, .slice Aj jns.length cj], .int .i64 win, .slice As script.length cs] w fun e w' => e = .returned (.tuple #[.agg made0, .int .i64 1]) ∧ Sat W0 w' L :=
  told_no (fun L hI w HS => srun_window hI hF hw HS) hI HS

set_option maxRecDepth 100000 in
set_option maxHeartbeats 2000000 in
theorem told_calls (hI : Img L W0 Ac cc code Aa ca arrs Ai ci ins) (hJ : Img L W0 Ac cc code Aa ca arrs Aj cj jns) (hF : Fine code arrs st me ins) (hG : Fine code arrs st me jns) (w0 : 1 ≤ win) (w1 : win ≤ 1000) (hScr : ∀ w, Sat W0 w L → Kd.C kDeed w As script.length script) (hsl : script.length ≤ 1000)
    (X Y : List S66) (hX : Aside0 (X = seenT code st me win arrs ins script)) (hY : Aside0 (Y = seenT code st me win arrs jns script)) (HS : Sat W0 w L) :
    Calls Try.prog 8 #[.agg #[.slice Ac code.length cc, .slice Aa arrs.length ca, .int .i64 st, .int .i64 me, .slice Ai ins.length ci, .slice Aj jns.length cj], .int .i64 win, .slice As script.length cs] w fun e w' => ∃ A1 c1 A2 c2, e = .returned (.tuple #[.agg #[.int .i64 (preO X Y), .bool (allO X Y), .slice A1 X.length c1, .slice A2 Y.length c2], .int .i64 0]) ∧
      Sat W0 w' (row KO 66 (.slice A2 Y.length c2) Y :: row KO 66 (.slice A1 X.length c1) X :: L) := by
  have hXl : X.length ≤ 1000000 := by rw [hX.out]; have := seenT_len code st me win arrs ins script hsl; omega
  have HScr := Aside0.mk hScr
  clear hScr
  go_enter Try.func8, Try.ntmps8
  go_upto_region 1 with (first | ((with_reducible refine gate_dst (N := 3) rfl ?_); go_must (refine ev_box HS rfl (N := 3) rfl (cs := #[.slice Ac code.length cc, .slice Aa arrs.length ca, .int .i64 st, .int .i64 me, .slice Ai ins.length ci, .slice Aj jns.length cj]) (t := 30) ?hrun ?_); (case hrun => first | (go_simp; done) | (go_simp; rfl)); clear HS; intro gb w HS) | ((with_reducible refine gate_dst (N := 6) rfl ?_); go_must (refine ev_box HS rfl (N := 6) rfl (cs := made0) (t := 33) ?hrun ?_); (case hrun => first | (go_simp; done) | (go_simp; rfl)); clear HS; intro g4 w HS))
  have cb := HS.cell 1 rfl
  have HR := Aside0.mk (show Calls Try.prog 13 #[.agg #[.slice Ac code.length cc, .slice Aa arrs.length ca, .int .i64 st, .int .i64 me], .slice Ai ins.length ci, .int .i64 win, .slice As script.length cs] w (fun e w' => ∃ g Am cm At ct v m t, e = .returned (.tuple #[.pointer (some ⟨g, 0, none⟩), v, .int .i64 0]) ∧
      Sat W0 w' (mch g Am me.toNat cm (.slice Ac code.length cc) (.slice At t ct) win m :: row KO 66 v X :: row IW 3 (.slice At t ct) (sitesF code 0) :: _)) from by
    rw [hX.out]
    exact (srun_calls ((hI.cons _).cons _) hF w0 w1 (fun w h => HScr.out w h.tail.tail) hsl HS).mono fun e w' ⟨g, Am, cm, At, ct, v, h1, h2⟩ => ⟨g, Am, cm, At, ct, v, _, _, h1, h2⟩)
  go_upto_region 2 with (first | ((with_reducible refine gate_load (ty := 25) (p := 14) rfl ?_); go_must (refine ev_load_part HS 1 rfl rfl 25 (.tmp 14) rfl (N := 15) rfl 0 rfl _ Try.underlying25 rfl [.slice Ac code.length cc, .slice Aa arrs.length ca, .int .i64 st, .int .i64 me] (by kernel_rfl) part4 ?_)) | (go_at_call 13; refine HR.out.mono ?_; rintro e w_ ⟨g, Am, cm, At, ct, v, m, t, rfl, HS_⟩; clear HS HR; have HS := HS_; clear HS_; obtain ⟨A1, c1, rfl⟩ := HS.slice 1 rfl))
  clear cb
  have cb := HS.cell 4 rfl
  have HR2 := Aside0.mk (show Calls Try.prog 13 #[.agg #[.slice Ac code.length cc, .slice Aa arrs.length ca, .int .i64 st, .int .i64 me], .slice Aj jns.length cj, .int .i64 win, .slice As script.length cs] w_ (fun e w' => ∃ g Am cm At ct v m t, e = .returned (.tuple #[.pointer (some ⟨g, 0, none⟩), v, .int .i64 0]) ∧
      Sat W0 w' (mch g Am me.toNat cm (.slice Ac code.length cc) (.slice At t ct) win m :: row KO 66 v Y :: row IW 3 (.slice At t ct) (sitesF code 0) :: _)) from by
    rw [hY.out]
    exact (srun_calls (((((hJ.cons _).cons _).cons _).cons _).cons _) hG w0 w1 (fun w h => HScr.out w h.tail.tail.tail.tail.tail) hsl HS).mono fun e w' ⟨g, Am, cm, At, ct, v, h1, h2⟩ => ⟨g, Am, cm, At, ct, v, _, _, h1, h2⟩)
  go_upto_region 5 with (first | ((with_reducible refine gate_load (ty := 25) (p := 29) rfl ?_); go_must (refine ev_load_part HS 4 rfl rfl 25 (.tmp 29) rfl (N := 30) rfl 0 rfl _ Try.underlying25 rfl [.slice Ac code.length cc, .slice Aa arrs.length ca, .int .i64 st, .int .i64 me] (by kernel_rfl) part4 ?_)) | (go_at_call 13; refine HR2.out.mono ?_; rintro e w_ ⟨g', Am', cm', At', ct', v', m', t', rfl, HS_⟩; clear HS HR2; have HS := HS_; clear HS_; obtain ⟨A2, c2, rfl⟩ := HS.slice 1 rfl))
  have HH := Aside0.mk (hold_calls (ca := c1) (cb := c2) (fun w h => h.C 4 rfl) (fun w h => h.C 1 rfl) hXl HS)
  go_wp2_with (first | (go_at_call 14; refine HH.out.mono ?_; rintro e w_ ⟨rfl, HS_⟩; clear HS HH; have HS := HS_; clear HS_) | ((with_reducible refine gate_store (t := 33) (p := 6) rfl ?_); go_must (refine ev_store HS 6 rfl rfl 33 (.tmp 6) (.tmp 45) rfl rfl rfl [.int .i64 (preO X Y), .bool (allO X Y), .slice A1 X.length c1, .slice A2 Y.length c2] ?hx (by kernel_rfl) (by rfl) ?h1 ?_); (case hx => first | rfl | (go_simp; done)); (case h1 => simp [Value.oneCell']); clear HS; intro w HS))
  exact bodyPost_ret (v := .tuple #[.agg #[.int .i64 (preO X Y), .bool (allO X Y), .slice A1 X.length c1, .slice A2 Y.length c2], .int .i64 0]) (results_ct Try.results8 _ _ g4 _ _ (0, 0) _ rfl (HS.blk 6 rfl) Try.underlying33 rfl info33) rfl ⟨A1, c1, A2, c2, rfl, (((((HS.erase 7).erase 6).erase 5).erase 3).erase 2).tail⟩
end
def headC : List S56 := [⟨11, 0, 0, 0, 0, 0⟩]
theorem head_right : image_Image_Right.f 20 headC [] 0 0 = some true := by kernel_rfl
theorem reps_ins {w : World} {base : Nat} {okp : Nat → Prop} (l : List S56) : Reps (k56.M w base okp) 6 l (l.flatMap fun x => [.int .i64 x.f0, .int .i64 x.f1, .int .i64 x.f2, .int .i64 x.f3, .int .i64 x.f4, .int .i64 x.f5]) := by
  induction l with
  | nil => exact Reps.none _ _
  | cons x l ih => exact Kd.reps_append (ps := [x]) (cs := [.int .i64 x.f0, .int .i64 x.f1, .int .i64 x.f2, .int .i64 x.f3, .int .i64 x.f4, .int .i64 x.f5]) ((Reps.none _ _).snoc (k56_mkM w base okp x) rfl) ih
theorem nil_C {α : Type} (d : Kd α) (w : World) : d.C w none ([] : List α).length [] := ⟨rfl, by simp, fun h => absurd h (Nat.lt_irrefl 0)⟩
theorem head_seen : (seenP headC 0 0 5 [] []).length = 2 := by kernel_rfl
theorem allO_refl (a : List S66) : allO a a = true := by unfold allO; rw [preO_refl]; simp
set_option maxRecDepth 100000 in
set_option maxHeartbeats 2000000 in
theorem head_calls {W0 w : World} {L : List Chunk} (HS : Sat W0 w L) : Calls Try.prog 6 #[] w fun e w' => e = .returned (.bool true) ∧ Sat W0 w' L := by
  obtain ⟨X, hX⟩ : ∃ X, X = seenP headC 0 0 5 [] [] := ⟨_, rfl⟩
  have hl : X.length = 2 := by rw [hX]; exact head_seen
  have HL := Aside0.mk hl
  have HP := Aside0.mk (show preO X X = 2 by rw [preO_refl, hl])
  have HA := Aside0.mk (allO_refl X)
  have HX := Aside0.mk hX
  clear hX hl
  go_enter Try.func6, Try.ntmps6
  go_upto_region 2 with (first | ((with_reducible refine gate_dst (N := 5) rfl ?_); go_must (refine ev_lit k56 (e := 56) HS rfl (N := 5) rfl (xs := headC) (inner := [.int .i64 11, .int .i64 0, .int .i64 0, .int .i64 0, .int .i64 0, .int .i64 0]) ?hrun (reps_ins headC) (by first | decide | simp) ?_); (case hrun => first | (go_simp; done) | (go_simp; rfl)); clear HS; intro gl w HS) | (go_at_call 7; refine (plain_calls (Ac := some ⟨gl, 0, none⟩) (cc := 1) (code := headC) (Aa := none) (ca := 0) (arrs := []) (st := 0) (me := 0) (Ai := none) (ci := 0) (ins := []) (Aj := none) (cj := 0) (jns := []) 5 (by decide) (by decide) ⟨fun w h => h.C 0 rfl, by decide, fun w h => nil_C _ _, by decide, fun w h => nil_C _ _⟩ ⟨fun w h => h.C 0 rfl, by decide, fun w h => nil_C _ _, by decide, fun w h => nil_C _ _⟩ (fine_of ⟨20, head_right⟩) X X HX HX HS).mono ?_; rintro e w_ ⟨A1, c1, A2, c2, rfl, HS_⟩; clear HS; have HS := HS_; clear HS_) | ((with_reducible refine gate_dst (N := 1) rfl ?_); go_must (refine ev_box HS rfl (N := 1) rfl (cs := made0) (t := 33) ?hrun ?_); (case hrun => first | (go_simp; done) | (go_simp; rfl)); clear HS; intro g1 w HS) | ((with_reducible refine gate_store (t := 33) (p := 1) rfl ?_); go_must (refine ev_store HS 0 rfl rfl 33 (.tmp 1) (.tmp 9) rfl rfl rfl [.int .i64 (preO X X), .bool (allO X X), .slice A1 X.length c1, .slice A2 X.length c2] ?hx (by kernel_rfl) (by rfl) ?h1 ?_); (case hx => first | rfl | (go_simp; done)); (case h1 => simp [Value.oneCell']); clear HS; intro w HS))
  rw [HL.out, HP.out, HA.out] at HS
  rw [HL.out]
  have cb := HS.cell 0 rfl
  go_wp2
  go_ret
  exact ⟨rfl, HS.tail.tail.tail.tail⟩
end Go.Proofs.Ytkgoljbimblkhaa.B
