/- Chapter 04: faults against each other; reading a program's parts; the document's example. -/
import Derived.Test.YtenkganofobioaaDoorPaProg
import Derived.Test.YtenkganofobioaaDoorAstText
import Derived.KernelRfl
namespace Go.Proofs.YtenkganofobioaaDoor.B
open Go.RowKit Go.Proofs.YtenkganofobioaaDoor.Mine Go.Proofs.YtenkganofobioaaDoor.Sep Go.Proofs.YtenkganofobioaaDoorW.PrintWords Go.Proofs.YtenkganofobioaaDoorW.PrintLast Go.Proofs.YtenkganofobioaaDoorW.PrintMore
set_option linter.unusedVariables false
set_option linter.unusedSimpArgs false
set_option maxRecDepth 100000 in
theorem eqA32 (d : Nat) (w : World) (x0 y0 x1 y1 : Int) : (Op.equalIn (d + 2) 32 (.agg #[.int .i64 x0, .int .i64 x1]) (.agg #[.int .i64 y0, .int .i64 y1])).run Tryd.prog w = .ok (x0 == y0 && (x1 == y1)) w := by
  refine eqA_of Tryd.underlying32 (by kernel_rfl) ?_
  refine eqf_cons (by rfl) (by go_simp; rfl) (by go_simp; rfl) (by go_simp) ?_
  exact eqf_last (by rfl) (by go_simp; rfl) (by go_simp; rfl) (by go_simp)
set_option maxRecDepth 100000 in
theorem eqA34 (d : Nat) (w : World) (x0 y0 x1 y1 x2 y2 : Int) : (Op.equalIn (d + 3) 34 (.agg #[.int .i64 x0, .int .i64 x1, .int .i64 x2]) (.agg #[.int .i64 y0, .int .i64 y1, .int .i64 y2])).run Tryd.prog w = .ok (x0 == y0 && ((x1 == y1 && (x2 == y2)))) w := by
  refine eqA_of Tryd.underlying34 (by kernel_rfl) ?_
  refine eqf_cons (by rfl) (by go_simp; rfl) (by go_simp; rfl) (by go_simp) ?_
  exact eqf_last (by rfl) (by go_simp) (by go_simp) (eqA32 (d + 0) w _ _ _ _)
theorem add0 (ad : Addr) : ad.add ((0 : Int).toNat * 5) = ad := addr_zero ad
theorem add0' (ad : Addr) : ad.add ((0 : Int).toNat * 7) = ad := addr_zero ad
/-- The first function of a row, in memory. -/
theorem fu_first {w : World} {A : Option Addr} {n : Nat} {f : FU} {fs : List FU} (h : Kd.C k41 w A n (f :: fs)) (hn : 0 < n) : ∃ ad A1 c1 A2 c2, A = some ad ∧ w.cell? ad = some (.string f.f0) ∧ w.cell? ⟨ad.block, ad.off + 1, none⟩ = some (.slice A1 f.f1.length c1) ∧ w.cell? ⟨ad.block, ad.off + 2, none⟩ = some (.slice A2 f.f2.length c2) ∧ Kd.C k45 w A2 f.f2.length f.f2 := by
  obtain ⟨ad, A1, c1, A2, c2, rfl, x0, x1, x2, x3, x4, l1, g1, l2, g2⟩ := at_T41 h 0 (Int.le_refl _) (by omega)
  rw [add0] at x0 x1 x2 x3 x4
  exact ⟨ad, A1, c1, A2, c2, rfl, x0, x1, x2, g2⟩
/-- The first statement of a row. -/
theorem st_first {w : World} {A : Option Addr} {n : Nat} {f : ST} {fs : List ST} (h : Kd.C k45 w A n (f :: fs)) (hn : 0 < n) : ∃ ad A4 c4 A5 c5 A6 c6, A = some ad ∧ w.cell? ad = some (.int .i64 f.f0) ∧ w.cell? ⟨ad.block, ad.off + 4, none⟩ = some (.slice A4 f.f3.length c4) ∧ w.cell? ⟨ad.block, ad.off + 5, none⟩ = some (.slice A5 f.f4.length c5) ∧ w.cell? ⟨ad.block, ad.off + 6, none⟩ = some (.slice A6 f.f5.length c6) ∧
    Kd.C k51 w A4 f.f3.length f.f3 ∧ Kd.C k45 w A5 f.f4.length f.f4 ∧ Kd.C k45 w A6 f.f5.length f.f5 ∧ w.cell? ⟨ad.block, ad.off + 1, none⟩ = some (.int .i64 f.f1.f0) ∧ w.cell? ⟨ad.block, ad.off + 2, none⟩ = some (.int .i64 f.f1.f1) ∧ w.cell? ⟨ad.block, ad.off + 3, none⟩ = some (.string f.f2) := by
  obtain ⟨ad, A4, c4, A5, c5, A6, c6, rfl, x0, x1, x2, x3, x4, x5, x6, l4, g4, l5, g5, l6, g6⟩ := at_T45 h 0 (Int.le_refl _) (by omega)
  rw [add0'] at x0 x1 x2 x3 x4 x5 x6
  exact ⟨ad, A4, c4, A5, c5, A6, c6, rfl, x0, x4, x5, x6, g4, g5, g6, x1, x2, x3⟩
/-- The first expression of a row. -/
theorem ex_first {w : World} {A : Option Addr} {n : Nat} {f : EX} {fs : List EX} (h : Kd.C k51 w A n (f :: fs)) (hn : 0 < n) : ∃ ad A6 c6, A = some ad ∧ w.cell? ad = some (.int .i64 f.f0) ∧ w.cell? ⟨ad.block, ad.off + 1, none⟩ = some (.int .i64 f.f1.f0) ∧ w.cell? ⟨ad.block, ad.off + 2, none⟩ = some (.int .i64 f.f1.f1) ∧ w.cell? ⟨ad.block, ad.off + 3, none⟩ = some (.int .i64 f.f2) ∧ w.cell? ⟨ad.block, ad.off + 4, none⟩ = some (.string f.f3) ∧ w.cell? ⟨ad.block, ad.off + 5, none⟩ = some (.int .i64 f.f4) ∧ w.cell? ⟨ad.block, ad.off + 6, none⟩ = some (.slice A6 f.f5.length c6) ∧ f.f5.length ≤ c6 ∧ Kd.C k51 w A6 f.f5.length f.f5 := by
  obtain ⟨ad, A6, c6, rfl, x0, x1, x2, x3, x4, x5, x6, l6, g6⟩ := at_T51 h 0 (Int.le_refl _) (by omega)
  rw [add0'] at x0 x1 x2 x3 x4 x5 x6
  exact ⟨ad, A6, c6, rfl, x0, x1, x2, x3, x4, x5, x6, l6, g6⟩
attribute [local go_sem high] eqA34 eqA32
def headT : List UInt8 := [102, 117, 110, 99, 32, 109, 97, 105, 110, 40, 41, 32, 123, 32, 114, 101, 116, 117, 114, 110, 32, 49, 32, 43, 32, 50, 32, 42, 32, 51, 59, 32, 125]
def headN (n c : Int) : EX := ⟨1, ⟨1, c⟩, n, bs [], 0, []⟩
def headK : List EX := [headN 1 22, ⟨6, ⟨1, 28⟩, 0, bs [], 3, [headN 2 26, headN 3 30]⟩]
def headE : EX := ⟨6, ⟨1, 24⟩, 0, bs [], 1, headK⟩
def headS : ST := ⟨6, ⟨1, 15⟩, bs [], [headE], [], []⟩
def headF : FU := ⟨bs [109, 97, 105, 110], [], [headS], ⟨1, 6⟩⟩
theorem head_parse : parseQ 20 headT = some (.prog [] [headF]) := by kernel_rfl
theorem dig_text (n : Nat) (h : n < 10) : Lib.itoa (n : Int) = [48 + UInt8.ofNat n] := by
  rw [Lib.itoa, if_neg (by omega), Int.toNat_natCast, Lib.decDigits_one h]
  exact congrArg (fun x => [x]) ((by decide : ∀ n : Nat, n < 10 → UInt8.ofNat (48 + n) = 48 + UInt8.ofNat n) n h)
theorem headE_text : txtE headE = [40, 49, 32, 43, 32, 40, 50, 32, 42, 32, 51, 41, 41] := by
  rw [show txtE headE = [40] ++ Lib.itoa 1 ++ [32] ++ signF 1 ++ [32] ++ ([40] ++ Lib.itoa 2 ++ [32] ++ signF 3 ++ [32] ++ Lib.itoa 3 ++ [41]) ++ [41] from by kernel_rfl, show (1 : Int) = ((1 : Nat) : Int) from rfl, show (2 : Int) = ((2 : Nat) : Int) from rfl, show (3 : Int) = ((3 : Nat) : Int) from rfl, dig_text 1 (by decide), dig_text 2 (by decide), dig_text 3 (by decide)]
  rfl
theorem headE_ok : okE headE := by unfold headE headK headN; simp only [okE, okL, i64]; decide
set_option maxRecDepth 100000 in
set_option maxHeartbeats 4000000 in
theorem head_calls {W0 w : World} {L : List Chunk} (hG : GL W0) (ho : OldIn W0 L) (HS : Sat W0 w L) : Calls Tryd.prog 9 #[] w fun e w' => e = .returned (.bool true) ∧ Sat W0 w' L := by
  have HOLD := Aside0.mk ho
  have HGL := Aside0.mk hG
  have HPR := Aside0.mk (show Calls Tryd.prog 10 #[.string ⟨#[102, 117, 110, 99, 32, 109, 97, 105, 110, 40, 41, 32, 123, 32, 114, 101, 116, 117, 114, 110, 32, 49, 32, 43, 32, 50, 32, 42, 32, 51, 59, 32, 125]⟩] w fun e w' => ∃ (A B : Option Addr) (a b : Nat), e = .returned (.tuple #[.agg #[.slice A 0 a, .slice B 1 b], .agg #[.int .i64 0, .int .i64 0, .int .i64 0]]) ∧ Sat W0 w' (row k75 75 (.slice A 0 a) [] :: row k41 41 (.slice B 1 b) [headF] :: L) from program_calls hG ho headT 20 _ head_parse HS)
  have HT := Aside0.mk (fun (w : World) (A : Option Addr) (c : Nat) (h : GL w) (hc : 2 ≤ c) (hC : Kd.C k51 w A headK.length headK) => show Calls Tryd.prog 15 #[.agg #[.int .i64 6, .int .i64 1, .int .i64 24, .int .i64 0, .string ⟨#[]⟩, .int .i64 1, .slice A 2 c]] w (fun r w' => r = .returned (.string ⟨#[40, 49, 32, 43, 32, 40, 50, 32, 42, 32, 51, 41, 41]⟩) ∧ Below w.heap.size w w') from by
    have := text_calls headE w A c h headE_ok (by decide +kernel) hC hc
    rw [headE_text] at this
    exact this)
  clear ho hG
  go_enter Tryd.func9, Tryd.ntmps9
  go_upto_region 2 with (first | (go_at_call 10; (with_reducible refine HPR.out.mono ?_); rintro e_ w_ ⟨A, B, a, b, rfl, HS_⟩; clear HS HPR; have HS := HS_; clear HS_) | ((with_reducible refine gate_dst (N := 1) rfl ?_); go_must (refine ev_box HS rfl (N := 1) rfl (cs := #[.slice none 0 0, .slice none 0 0]) (t := 30) ?hrun ?_); (case hrun => first | (go_simp; done) | (go_simp; rfl)); clear HS; intro g1 w HS) | ((with_reducible refine gate_dst (N := 2) rfl ?_); go_must (refine ev_box HS rfl (N := 2) rfl (cs := #[.int .i64 0, .int .i64 0, .int .i64 0]) (t := 34) ?hrun ?_); (case hrun => first | (go_simp; done) | (go_simp; rfl)); clear HS; intro g2 w HS) | ((with_reducible refine gate_store (t := 30) (p := 1) rfl ?_); go_must (refine ev_store HS 1 rfl rfl 30 (.tmp 1) (.tmp 5) rfl rfl rfl [.slice A 0 a, .slice B 1 b] ?hx (by kernel_rfl) (by rfl) ?h1 ?_); (case hx => first | rfl | (go_simp; done)); (case h1 => simp [Value.oneCell']); clear HS; intro w HS) | ((with_reducible refine gate_store (t := 34) (p := 2) rfl ?_); go_must (refine ev_store HS 0 rfl rfl 34 (.tmp 2) (.tmp 6) rfl rfl rfl [.int .i64 0, .int .i64 0, .int .i64 0] ?hx (by kernel_rfl) (by rfl) ?h1 ?_); (case hx => first | rfl | (go_simp; done)); (case h1 => simp [Value.oneCell']); clear HS; intro w HS))
  have c2 := HS.cell 0 rfl
  have c1 := HS.cell 1 rfl
  obtain ⟨ad, A1, d1, A2, d2, rfl, x0, x1, x2, g2'⟩ := fu_first (HS.C 3 rfl) (by decide)
  obtain ⟨bd, A4, d4, A5, d5, A6, d6, rfl, y0, y4, y5, y6, g4', g5', g6', y1, y2, y3⟩ := st_first (f := headS) g2' (by decide)
  obtain ⟨ed, A7, d7, rfl, z0, z1, z2, z3, z4, z5, z6, l7, g7'⟩ := ex_first (f := headE) g4' (by decide)
  replace x2 : w.cell? ⟨ad.block, ad.off + 2, none⟩ = some (.slice (some bd) 1 d2) := x2
  replace y4 : w.cell? ⟨bd.block, bd.off + 4, none⟩ = some (.slice (some ed) 1 d4) := y4
  replace z0 : w.cell? ed = some (.int .i64 6) := z0
  replace z1 : w.cell? ⟨ed.block, ed.off + 1, none⟩ = some (.int .i64 1) := z1
  replace z2 : w.cell? ⟨ed.block, ed.off + 2, none⟩ = some (.int .i64 24) := z2
  replace z3 : w.cell? ⟨ed.block, ed.off + 3, none⟩ = some (.int .i64 0) := z3
  replace z4 : w.cell? ⟨ed.block, ed.off + 4, none⟩ = some (.string ⟨#[]⟩) := z4
  replace z5 : w.cell? ⟨ed.block, ed.off + 5, none⟩ = some (.int .i64 1) := z5
  replace z6 : w.cell? ⟨ed.block, ed.off + 6, none⟩ = some (.slice A7 2 d7) := z6
  have HTT := Aside0.mk (HT.out w A7 d7 (HOLD.out.cons.cons.cons.cons.gl HGL.out HS) l7 g7')
  clear x0 x1 y0 y5 y6 y1 y2 y3 g2' g4' g5' g6' g7' l7 HT
  go_wp2_with (first | ((with_reducible refine gate_load (ty := 34) (p := 2) rfl ?_); go_must (refine ev_load HS 0 rfl rfl 34 (.tmp 2) rfl (N := 7) rfl rfl _ Tryd.underlying34 rfl (by kernel_rfl) ?_)) | ((try (refine gate_guard (by rfl) ?_; dsimp only)); go_at_call 15; (with_reducible refine HTT.out.mono ?_); rintro e_ w_ ⟨rfl, hb⟩; replace HS := HS.below hb; clear hb))
  go_ret
  exact ⟨rfl, HS.tail.tail.tail.tail⟩
end Go.Proofs.YtenkganofobioaaDoor.B
