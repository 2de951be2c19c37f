/- ParseErrors: texts that are no programs: the first token that may not stand there is told. -/
import Derived.Test.YtenkganofobioaaDoorPaHead
namespace Go.Proofs.YtenkganofobioaaDoor.B
open Go.RowKit Go.Proofs.YtenkganofobioaaDoor.Mine Go.Proofs.YtenkganofobioaaDoor.Sep Go.Proofs.YtenkganofobioaaDoorW.PrintWords Go.Proofs.YtenkganofobioaaDoorW.PrintLast Go.Proofs.YtenkganofobioaaDoorW.PrintMore
set_option linter.unusedVariables false
set_option linter.unusedSimpArgs false
attribute [local go_sem] Instr.field asAgg
attribute [local go_sem high] eqA34 eqA32
def errList : List (List UInt8 × Int × Int) := [([102, 117, 110, 99], 5, 12), ([102, 117, 110, 99, 32, 102], 7, 12), ([102, 117, 110, 99, 32, 102, 40, 41], 9, 12), ([102, 117, 110, 99, 32, 102, 40, 97, 32, 98, 41, 32, 123, 125], 10, 12), ([102, 117, 110, 99, 32, 102, 40, 97, 44, 41, 32, 123, 125], 10, 12), ([102, 117, 110, 99, 32, 102, 40, 41, 32, 123, 32, 114, 101, 116, 117, 114, 110, 59, 32, 125], 18, 12), ([102, 117, 110, 99, 32, 102, 40, 41, 32, 123, 32, 97, 59, 32, 125], 13, 12), ([102, 117, 110, 99, 32, 102, 40, 41, 32, 123, 32, 49, 32, 61, 32, 50, 59, 32, 125], 14, 12), ([102, 117, 110, 99, 32, 102, 40, 41, 32, 123, 32, 108, 101, 116, 32, 49, 32, 61, 32, 50, 59, 32, 125], 16, 12), ([102, 117, 110, 99, 32, 102, 40, 41, 32, 123, 32, 105, 102, 32, 97, 32, 98, 59, 32, 125], 17, 12), ([102, 117, 110, 99, 32, 102, 40, 41, 32, 123, 32, 103, 40, 97, 32, 98, 41, 59, 32, 125], 16, 12), ([102, 117, 110, 99, 32, 102, 40, 41, 32, 123, 32, 114, 101, 116, 117, 114, 110, 32, 49, 32, 60, 32, 50, 32, 60, 32, 51, 59, 32, 125], 25, 12), ([118, 97, 114, 32, 97, 91, 48, 93, 59], 7, 31), ([118, 97, 114, 32, 97, 91, 52, 48, 57, 55, 93, 59], 7, 31), ([118, 97, 114, 32, 97, 91, 98, 93, 59], 7, 12), ([97], 1, 12), ([102, 117, 110, 99, 32, 102, 40, 41, 32, 123, 32, 114, 101, 116, 117, 114, 110, 32, 40, 49, 59, 32, 125], 21, 12), ([102, 117, 110, 99, 32, 102, 40, 41, 32, 123, 32, 120, 32, 61, 32, 49, 32, 125], 18, 12), ([102, 117, 110, 99, 32, 102, 40, 41, 32, 123, 32, 114, 101, 116, 117, 114, 110, 32, 97, 91, 49, 59, 32, 125], 22, 12), ([102, 117, 110, 99, 32, 102, 40, 41, 32, 123, 32, 36, 32, 125], 12, 10)]
abbrev errCells : List Value := [.string ⟨#[102, 117, 110, 99]⟩, .int .i64 5, .int .i64 12, .string ⟨#[102, 117, 110, 99, 32, 102]⟩, .int .i64 7, .int .i64 12, .string ⟨#[102, 117, 110, 99, 32, 102, 40, 41]⟩, .int .i64 9, .int .i64 12, .string ⟨#[102, 117, 110, 99, 32, 102, 40, 97, 32, 98, 41, 32, 123, 125]⟩, .int .i64 10, .int .i64 12, .string ⟨#[102, 117, 110, 99, 32, 102, 40, 97, 44, 41, 32, 123, 125]⟩, .int .i64 10, .int .i64 12, .string ⟨#[102, 117, 110, 99, 32, 102, 40, 41, 32, 123, 32, 114, 101, 116, 117, 114, 110, 59, 32, 125]⟩, .int .i64 18, .int .i64 12, .string ⟨#[102, 117, 110, 99, 32, 102, 40, 41, 32, 123, 32, 97, 59, 32, 125]⟩, .int .i64 13, .int .i64 12, .string ⟨#[102, 117, 110, 99, 32, 102, 40, 41, 32, 123, 32, 49, 32, 61, 32, 50, 59, 32, 125]⟩, .int .i64 14, .int .i64 12, .string ⟨#[102, 117, 110, 99, 32, 102, 40, 41, 32, 123, 32, 108, 101, 116, 32, 49, 32, 61, 32, 50, 59, 32, 125]⟩, .int .i64 16, .int .i64 12, .string ⟨#[102, 117, 110, 99, 32, 102, 40, 41, 32, 123, 32, 105, 102, 32, 97, 32, 98, 59, 32, 125]⟩, .int .i64 17, .int .i64 12, .string ⟨#[102, 117, 110, 99, 32, 102, 40, 41, 32, 123, 32, 103, 40, 97, 32, 98, 41, 59, 32, 125]⟩, .int .i64 16, .int .i64 12, .string ⟨#[102, 117, 110, 99, 32, 102, 40, 41, 32, 123, 32, 114, 101, 116, 117, 114, 110, 32, 49, 32, 60, 32, 50, 32, 60, 32, 51, 59, 32, 125]⟩, .int .i64 25, .int .i64 12, .string ⟨#[118, 97, 114, 32, 97, 91, 48, 93, 59]⟩, .int .i64 7, .int .i64 31, .string ⟨#[118, 97, 114, 32, 97, 91, 52, 48, 57, 55, 93, 59]⟩, .int .i64 7, .int .i64 31, .string ⟨#[118, 97, 114, 32, 97, 91, 98, 93, 59]⟩, .int .i64 7, .int .i64 12, .string ⟨#[97]⟩, .int .i64 1, .int .i64 12, .string ⟨#[102, 117, 110, 99, 32, 102, 40, 41, 32, 123, 32, 114, 101, 116, 117, 114, 110, 32, 40, 49, 59, 32, 125]⟩, .int .i64 21, .int .i64 12, .string ⟨#[102, 117, 110, 99, 32, 102, 40, 41, 32, 123, 32, 120, 32, 61, 32, 49, 32, 125]⟩, .int .i64 18, .int .i64 12, .string ⟨#[102, 117, 110, 99, 32, 102, 40, 41, 32, 123, 32, 114, 101, 116, 117, 114, 110, 32, 97, 91, 49, 59, 32, 125]⟩, .int .i64 22, .int .i64 12, .string ⟨#[102, 117, 110, 99, 32, 102, 40, 41, 32, 123, 32, 36, 32, 125]⟩, .int .i64 12, .int .i64 10]
def isFault (x : Option Parsed) (e l c : Int) : Bool := match x with | some (.fault e' l' c') => e' == e && l' == l && c' == c | _ => false
theorem isFault_eq {x : Option Parsed} {e l c : Int} (h : isFault x e l c = true) : x = some (.fault e l c) := by
  unfold isFault at h
  split at h
  · simp only [Bool.and_eq_true, beq_iff_eq] at h
    obtain ⟨⟨rfl, rfl⟩, rfl⟩ := h
    rfl
  · cases h
def errT (j : Nat) : List UInt8 := (errList.getD j ([], 0, 0)).1
def errC (j : Nat) : Int := (errList.getD j ([], 0, 0)).2.1
def errE (j : Nat) : Int := (errList.getD j ([], 0, 0)).2.2
def okT : List UInt8 := [118, 97, 114, 32, 111, 107, 59, 10]
def errOk (j p : Nat) : Bool := isFault (parseQ 30 (List.replicate p 32 ++ errT j)) (errE j) 1 (errC j + p)
def errOk2 (j p : Nat) : Bool := isFault (parseQ 30 (okT ++ List.replicate p 32 ++ errT j)) (errE j) 2 (errC j + p)
theorem err_all : ((List.range 20).all fun j => (List.range 16).all fun p => errOk j p && errOk2 j p) = true := by kernel_rfl
theorem err_at {j p : Nat} (hj : j < 20) (hp : p < 16) : parseQ 30 (List.replicate p 32 ++ errT j) = some (.fault (errE j) 1 (errC j + p)) ∧ parseQ 30 (okT ++ List.replicate p 32 ++ errT j) = some (.fault (errE j) 2 (errC j + p)) := by
  have h := List.all_eq_true.1 (List.all_eq_true.1 err_all j (List.mem_range.2 hj)) p (List.mem_range.2 hp)
  rw [Bool.and_eq_true] at h
  exact ⟨isFault_eq h.1, isFault_eq h.2⟩
theorem err_cells : ∀ j : Nat, j < 20 → errCells.toArray[j * 3]? = some (.string (bs (errT j))) ∧ errCells.toArray[j * 3 + 1]? = some (.int .i64 (errC j)) ∧ errCells.toArray[j * 3 + 2]? = some (.int .i64 (errE j)) := by
  intro j hj
  match j, hj with
  | 0, _ => exact ⟨rfl, rfl, rfl⟩
  | 1, _ => exact ⟨rfl, rfl, rfl⟩
  | 2, _ => exact ⟨rfl, rfl, rfl⟩
  | 3, _ => exact ⟨rfl, rfl, rfl⟩
  | 4, _ => exact ⟨rfl, rfl, rfl⟩
  | 5, _ => exact ⟨rfl, rfl, rfl⟩
  | 6, _ => exact ⟨rfl, rfl, rfl⟩
  | 7, _ => exact ⟨rfl, rfl, rfl⟩
  | 8, _ => exact ⟨rfl, rfl, rfl⟩
  | 9, _ => exact ⟨rfl, rfl, rfl⟩
  | 10, _ => exact ⟨rfl, rfl, rfl⟩
  | 11, _ => exact ⟨rfl, rfl, rfl⟩
  | 12, _ => exact ⟨rfl, rfl, rfl⟩
  | 13, _ => exact ⟨rfl, rfl, rfl⟩
  | 14, _ => exact ⟨rfl, rfl, rfl⟩
  | 15, _ => exact ⟨rfl, rfl, rfl⟩
  | 16, _ => exact ⟨rfl, rfl, rfl⟩
  | 17, _ => exact ⟨rfl, rfl, rfl⟩
  | 18, _ => exact ⟨rfl, rfl, rfl⟩
  | 19, _ => exact ⟨rfl, rfl, rfl⟩
  | n + 20, h => exact absurd h (by omega)
theorem err_size : ∀ j : Nat, j < 20 → 0 ≤ errC j ∧ errC j ≤ 25 ∧ (errT j).length ≤ 40 := by decide
theorem and15 (n : Int) : Go.bits .and .i64 n 15 = n % 16 := by
  have h1 : (BitVec.ofInt 64 15).toNat = 2 ^ 4 - 1 := by decide
  have key : (BitVec.ofInt 64 n &&& BitVec.ofInt 64 15).toNat = (n % ((2 ^ 64 : Nat) : Int)).toNat % 2 ^ 4 := by
    rw [BitVec.toNat_and, BitVec.toNat_ofInt, h1, Nat.and_two_pow_sub_one_eq_mod]
  show IntKind.i64.wrap ((BitVec.ofInt 64 n &&& BitVec.ofInt 64 15).toNat : Nat) = n % 16
  rw [key, IntKind.wrap_i64]
  omega
theorem mod_in (n : Int) (m : Nat) (hm : 0 < m) (hm2 : m < 1000000) : ∃ j : Nat, j < m ∧ wrap64 ((IntKind.u64.wrap n).tmod (m : Int)) = (j : Int) := by
  have h0 : 0 ≤ IntKind.u64.wrap n := by
    show 0 ≤ n % _
    exact Int.emod_nonneg _ (by decide)
  have h1 : (IntKind.u64.wrap n).tmod (m : Int) = (IntKind.u64.wrap n) % (m : Int) := Int.tmod_eq_emod_of_nonneg h0
  have h2 := Int.emod_nonneg (IntKind.u64.wrap n) (show (m : Int) ≠ 0 by omega)
  have h3 := Int.emod_lt_of_pos (IntKind.u64.wrap n) (show (0 : Int) < m by omega)
  refine ⟨((IntKind.u64.wrap n) % (m : Int)).toNat, by omega, ?_⟩
  rw [h1, w64 _ (by omega) (by omega)]
  omega
set_option maxRecDepth 100000 in
set_option maxHeartbeats 8000000 in
theorem errors_walk (which pad : Int) (W : World) (_ : (Lit.int .i64 which).wf = true) (_ : (Lit.int .i64 pad).wf = true) (hL : laidMetH Tryd.prog astLaid W) :
    Calls Tryd.prog 3 #[.int .i64 which, .int .i64 pad] W fun e W' => e = .returned (.bool true) ∧ Below W.heap.size W W' := by
  have hG := of_laid hL
  have HS := Sat.start W
  obtain ⟨j, hj, hJ'⟩ := mod_in which 20 (by decide) (by decide)
  obtain ⟨J, hJe⟩ : ∃ J : Int, J = (j : Int) := ⟨_, rfl⟩
  have hJ : wrap64 ((IntKind.u64.wrap which).tmod 20) = J := by rw [hJe]; exact hJ'
  have hjn : J.toNat = j := by omega
  have HJ := Aside0.mk hjn
  have r1 : (0 ≤ J) = True := eq_true (by omega)
  have r2 : (J < 20) = True := eq_true (by omega)
  have HJ20 := Aside0.mk hj
  clear hJ' hJe hjn hj
  go_enter Tryd.func3, Tryd.ntmps3
  go_upto_region 3 with (go_at_call 9; refine (head_calls hG ⟨0, rfl⟩ HS).mono ?_; rintro e_ w_ ⟨rfl, HS_⟩; clear HS; have HS := HS_; clear HS_)
  go_upto_region 4 with ((with_reducible refine gate_dst (N := 36) rfl ?_); go_must (refine ev_litb HS rfl (N := 36) rfl (cs := errCells.toArray) (e := 24) (n := 20) ?hrun ?_); (case hrun => first | (go_simp; done) | (go_simp; rfl)); clear HS; intro g36 w HS)
  obtain ⟨k0, k1, k2⟩ := err_cells j HJ20.out
  have hc0 := (HS.cell 0 rfl (j * 3)).trans k0
  have hc1 := (HS.cell 0 rfl (j * 3 + 1)).trans k1
  have hc2 := (HS.cell 0 rfl (j * 3 + 2)).trans k2
  rw [← HJ.out] at hc0 hc1 hc2
  clear k0 k1 k2
  obtain ⟨q1, q2, q3⟩ := err_size j HJ20.out
  obtain ⟨p, hp, hP'⟩ : ∃ p : Nat, p < 16 ∧ Go.bits .and .i64 pad 15 = (p : Int) := ⟨(pad % 16).toNat, by omega, by rw [and15]; omega⟩
  obtain ⟨e1, e2⟩ := err_at HJ20.out hp
  obtain ⟨T, hT⟩ : ∃ T, T = errT j := ⟨_, rfl⟩
  obtain ⟨C, hC⟩ : ∃ C, C = errC j := ⟨_, rfl⟩
  obtain ⟨E, hE⟩ : ∃ E, E = errE j := ⟨_, rfl⟩
  rw [HJ.out, ← hT] at hc0
  rw [HJ.out, ← hC] at hc1
  rw [HJ.out, ← hE] at hc2
  rw [← HJ.out] at hc0 hc1 hc2
  rw [← hT, ← hC, ← hE] at e1 e2
  rw [← hC] at q1 q2
  rw [← hT] at q3
  obtain ⟨P, hPe⟩ : ∃ P : Int, P = (p : Int) := ⟨_, rfl⟩
  have hP : Go.bits .and .i64 pad 15 = P := by rw [hPe]; exact hP'
  have HPN := Aside0.mk (show P = (p : Int) ∧ p < 16 from ⟨hPe, hp⟩)
  have hw : wrap64 (C + P) = C + P := w64 _ (by omega) (by omega)
  have HQ := Aside0.mk q3
  have HP1 := Aside0.mk (fun (w : World) (L : List Chunk) (ho : OldIn W L) (HS : Sat W w L) => show Calls Tryd.prog 10 #[.string (bs (List.replicate p 32 ++ T))] w (fun e w' => E ≠ 0 ∧ e = .returned (.tuple #[.agg #[.slice none 0 0, .slice none 0 0], .agg #[.int .i64 E, .int .i64 1, .int .i64 (C + P)]]) ∧ Sat W w' L) from by rw [hPe]; exact program_calls hG ho _ 30 _ e1 HS)
  have HP2 := Aside0.mk (fun (w : World) (L : List Chunk) (ho : OldIn W L) (HS : Sat W w L) => show Calls Tryd.prog 10 #[.string (bs ([118, 97, 114, 32, 111, 107, 59, 10] ++ List.replicate p 32 ++ T))] w (fun e w' => E ≠ 0 ∧ e = .returned (.tuple #[.agg #[.slice none 0 0, .slice none 0 0], .agg #[.int .i64 E, .int .i64 2, .int .i64 (C + P)]]) ∧ Sat W w' L) from by rw [hPe]; exact program_calls hG ho _ 30 _ e2 HS)
  clear q1 q2 q3 e1 e2 hT hC hE hPe hP' hp
  go_upto_region 5 with (first | ((with_reducible refine gate_dst (N := 6) rfl ?_); go_must (refine ev_box HS rfl (N := 6) rfl (cs := #[.string ⟨#[]⟩, .int .i64 0, .int .i64 0]) (t := 24) ?hrun ?_); (case hrun => first | (go_simp; done) | (go_simp; rfl)); clear HS; intro g6 w HS) | ((with_reducible refine gate_store (t := 24) (p := 6) rfl ?_); go_must (refine ev_store HS 0 rfl rfl 24 (.tmp 6) (.tmp 43) rfl rfl rfl [.string (bs T), .int .i64 C, .int .i64 E] ?hx (by kernel_rfl) (by rfl) ?h1 ?_); (case hx => first | rfl | (go_simp; done)); (case h1 => simp [Value.oneCell']); clear HS; intro w HS))
  clear hc0 hc1 hc2
  replace HS := HS.erase 1
  go_wp2
  go_loopg [7, 8] 17 (fun kq v7 v8 w' => ∃ (i : Nat), v7 = .string (bs (List.replicate i 32)) ∧ v8 = .int .i64 (i : Int) ∧ Aside0 (i ≤ p ∧ 16 < kq + i) ∧ Aside0 (w' = w))
  case atStart => exact ⟨0, rfl, rfl, ⟨by omega, by omega⟩, ⟨rfl⟩⟩
  case round =>
    obtain ⟨i, rfl, rfl, HI, HW⟩ := hrel
    obtain rfl := HW.out
    clear HW
    cases gk with
    | zero => have := HI.out; have := HPN.out; omega
    | succ k1 =>
      by_cases hi : i < p
      · obtain ⟨I, hI⟩ : ∃ I : Int, I = (i : Int) := ⟨_, rfl⟩
        have HIE := Aside0.mk hI
        rw [← hI]
        have c1_ : decide (I < P) = true := decide_eq_true (by have := HPN.out; omega)
        have hwi : wrap64 (I + 1) = I + 1 := w64 _ (by have := HPN.out; omega) (by have := HPN.out; omega)
        have hsz := Aside0.mk (show (List.replicate i (32 : UInt8)).length + 1 ≤ 1000 from by rw [List.length_replicate]; have := HPN.out; omega)
        have HII := Aside0.mk hi
        clear hi hI
        go_wp2_with ((with_reducible refine gate_bin (b := .add) (t := 9) (t' := 9) rfl ?_); go_must (refine ev_cat (q := [32]) Tryd.underlying9 rfl rfl rfl rfl rfl (by have := hsz.out; simp only [List.length_cons, List.length_nil]; omega) ?_))
        go_roundg k1
        case measure => exact Nat.lt_succ_self _
        case rel => exact ⟨i + 1, by rw [List.replicate_succ'], by first | (rw [hwi, HIE.out]; rfl) | (rw [HIE.out]; rfl), ⟨by have := HII.out; omega, by have := HI.out; omega⟩, ⟨rfl⟩⟩
      · have hip : i = p := by have := HI.out; omega
        subst hip
        have hPI : P = (i : Int) := HPN.out.1
        have c1_ : decide (P < P) = false := decide_eq_false (by omega)
        rw [← hPI]
        have hl := Aside0.mk (show (List.replicate i (32 : UInt8)).length + T.length ≤ 1000 from by rw [List.length_replicate]; have := HPN.out; have := HQ.out; omega)
        have hl2 := Aside0.mk (show ([118, 97, 114, 32, 111, 107, 59, 10] : List UInt8).length + (List.replicate i (32 : UInt8)).length ≤ 1000 from by rw [List.length_replicate]; have := HPN.out; simp only [List.length_cons, List.length_nil]; omega)
        have hl3 := Aside0.mk (show ([118, 97, 114, 32, 111, 107, 59, 10] ++ List.replicate i (32 : UInt8)).length + T.length ≤ 1000 from by rw [List.length_append, List.length_replicate]; have := HPN.out; have := HQ.out; simp only [List.length_cons, List.length_nil]; omega)
        obtain ⟨R, hR⟩ : ∃ R, R = List.replicate i (32 : UInt8) := ⟨_, rfl⟩
        rw [← hR] at hl hl2 hl3 HP1 HP2 ⊢
        clear hi hPI hR
        have cb := HS.cell 0 rfl
        go_upto_region 11 with (first | ((with_reducible refine gate_bin (b := .add) (t := 9) (t' := 9) rfl ?_); go_must (refine ev_cat (p := R) (q := T) Tryd.underlying9 rfl rfl rfl rfl rfl (by have := hl.out; omega) ?_)) | (go_at_call 10; go_must (refine (HP1.out _ _ (by exact ⟨1, rfl⟩) HS).mono ?_); rintro e_ w_ ⟨hne, rfl, HS_⟩; clear HS cb; have HS := HS_; clear HS_) | ((with_reducible refine gate_dst (N := 9) rfl ?_); go_must (refine ev_box HS rfl (N := 9) rfl (cs := #[.slice none 0 0, .slice none 0 0]) (t := 30) ?hrun ?_); (case hrun => first | (go_simp; done) | (go_simp; rfl)); clear HS; intro g9 w HS) | ((with_reducible refine gate_dst (N := 10) rfl ?_); go_must (refine ev_box HS rfl (N := 10) rfl (cs := #[.int .i64 0, .int .i64 0, .int .i64 0]) (t := 34) ?hrun ?_); (case hrun => first | (go_simp; done) | (go_simp; rfl)); clear HS; intro g10 w HS) | ((with_reducible refine gate_store (t := 30) (p := 9) rfl ?_); go_must (refine ev_store HS 1 rfl rfl 30 (.tmp 9) (.tmp 58) rfl rfl rfl [.slice none 0 0, .slice none 0 0] ?hx (by kernel_rfl) (by rfl) ?h1 ?_); (case hx => first | rfl | (go_simp; done)); (case h1 => simp [Value.oneCell']); clear HS; intro w HS) | ((with_reducible refine gate_store (t := 34) (p := 10) rfl ?_); go_must (refine ev_store HS 0 rfl rfl 34 (.tmp 10) (.tmp 59) rfl rfl rfl [.int .i64 E, .int .i64 1, .int .i64 (C + P)] ?hx (by kernel_rfl) (by rfl) ?h1 ?_); (case hx => first | rfl | (go_simp; done)); (case h1 => simp [Value.oneCell']); clear HS; intro w HS))
        have cb := HS.cell 2 rfl
        go_upto_region 12 with (first | ((with_reducible refine gate_dst (N := 62) rfl ?_); go_must (refine ev_cat (p := [118, 97, 114, 32, 111, 107, 59, 10]) (q := R) Tryd.underlying9 rfl rfl rfl rfl rfl (by have := hl2.out; omega) ?_)) | ((with_reducible refine gate_dst (N := 65) rfl ?_); go_must (refine ev_cat (p := [118, 97, 114, 32, 111, 107, 59, 10] ++ R) (q := T) Tryd.underlying9 rfl rfl rfl rfl rfl (by have := hl3.out; omega) ?_)) | (go_at_call 10; go_must (refine (HP2.out _ _ (by exact ⟨3, rfl⟩) HS).mono ?_); rintro e_ w_ ⟨hne2, rfl, HS_⟩; clear HS cb; have HS := HS_; clear HS_) | ((with_reducible refine gate_dst (N := 11) rfl ?_); go_must (refine ev_box HS rfl (N := 11) rfl (cs := #[.slice none 0 0, .slice none 0 0]) (t := 30) ?hrun ?_); (case hrun => first | (go_simp; done) | (go_simp; rfl)); clear HS; intro g11 w HS) | ((with_reducible refine gate_dst (N := 12) rfl ?_); go_must (refine ev_box HS rfl (N := 12) rfl (cs := #[.int .i64 0, .int .i64 0, .int .i64 0]) (t := 34) ?hrun ?_); (case hrun => first | (go_simp; done) | (go_simp; rfl)); clear HS; intro g12 w HS) | ((with_reducible refine gate_store (t := 30) (p := 11) rfl ?_); go_must (refine ev_store HS 1 rfl rfl 30 (.tmp 11) (.tmp 67) rfl rfl rfl [.slice none 0 0, .slice none 0 0] ?hx (by kernel_rfl) (by rfl) ?h1 ?_); (case hx => first | rfl | (go_simp; done)); (case h1 => simp [Value.oneCell']); clear HS; intro w HS) | ((with_reducible refine gate_store (t := 34) (p := 12) rfl ?_); go_must (refine ev_store HS 0 rfl rfl 34 (.tmp 12) (.tmp 68) rfl rfl rfl [.int .i64 E, .int .i64 2, .int .i64 (C + P)] ?hx (by kernel_rfl) (by rfl) ?h1 ?_); (case hx => first | rfl | (go_simp; done)); (case h1 => simp [Value.oneCell']); clear HS; intro w HS))
        have cb := HS.cell 4 rfl
        have cb9 := HS.cell 3 rfl
        clear hne hne2
        have t1_ : (E == E) = true := by simp
        have t2_ : ((C + P) == (C + P)) = true := by simp
        go_wp2_with (first | ((with_reducible refine gate_load (ty := 34) (p := 10) rfl ?_); (refine gate_guard (by rfl) ?_); dsimp only; go_must (refine ev_load HS 2 rfl rfl 34 (.tmp 10) rfl (N := 79) rfl rfl _ Tryd.underlying34 rfl (by kernel_rfl) ?_)) | ((with_reducible refine gate_load (ty := 34) (p := 12) rfl ?_); (refine gate_guard (by rfl) ?_); dsimp only; go_must (refine ev_load HS 0 rfl rfl 34 (.tmp 12) rfl (N := 88) rfl rfl _ Tryd.underlying34 rfl (by kernel_rfl) ?_)))
        go_ret
        exact ⟨rfl, HS.old 5 rfl⟩
end Go.Proofs.YtenkganofobioaaDoor.B
