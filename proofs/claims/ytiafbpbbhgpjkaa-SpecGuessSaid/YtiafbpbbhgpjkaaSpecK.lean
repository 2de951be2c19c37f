/- The machine that runs ahead: what it knows. -/
import Derived.Test.YtiafbpbbhgpjkaaSpecA
namespace Go.Proofs.Ytiafbpbbhgpjkaa.B
open Go.RowKit Go.Proofs.Ytiafbpbbhgpjkaa.Mine Go.Proofs.Ytiafbpbbhgpjkaa.Sep Go.Proofs.YtiafbpbbhgpjkaaW.PrintWords Go.Proofs.YtiafbpbbhgpjkaaW.PrintLast Go.Proofs.YtiafbpbbhgpjkaaW.PrintMore
set_option linter.unusedVariables false
set_option linter.unusedSimpArgs false
/-- Words are put into memory, one behind the other. -/
def wrs : List Int → List (Int × Int) → List Int
  | m, [] => m
  | m, x :: r => wrs (wWr m x.1 x.2).1 r
theorem wrs_append : ∀ (m : List Int) (a b : List (Int × Int)), wrs m (a ++ b) = wrs (wrs m a) b
  | m, [], b => rfl
  | m, x :: r, b => by rw [List.cons_append, wrs, wrs, wrs_append]
theorem wrs_length : ∀ (m : List Int) (b : List (Int × Int)), (wrs m b).length = m.length
  | m, [] => rfl
  | m, x :: r => by
    rw [wrs, wrs_length]
    unfold wWr
    split <;> simp
theorem cmt_all : ∀ (m : List Int) (b : List (Int × Int)), cmt 0 m b = (wrs m b, [])
  | m, [] => rfl
  | m, x :: r => by rw [cmt, if_pos (by omega), wrs, cmt_all]
def kwnS (X : SM) : St := match X.saved with
  | none => X.s
  | some p => p.1
def kwnB (X : SM) : List (Int × Int) := match X.saved with
  | none => X.buf
  | some p => p.2
def kwnM (X : SM) : List Int := wrs X.mem (kwnB X)
theorem eqW_nil (cq : Nat) (w : World) : (Go.binOp .eql 40 (.slice none 0 cq) (.slice none 0 0)).run Try.prog w = .ok (.bool true) w := by kernel_rfl
theorem eqW_some (ad : Addr) (k cq : Nat) (w : World) : (Go.binOp .eql 40 (.slice (some ad) k cq) (.slice none 0 0)).run Try.prog w = .ok (.bool false) w := by kernel_rfl
section
variable {g : Nat} {A : Option Addr} {n c : Nat} {vc vt : Value} {win : Int} {W0 w : World} {L : List Chunk}

set_option maxRecDepth 100000 in
set_option maxHeartbeats 2000000 in
theorem clonew_calls {A' : Option Addr} {n' c' : Nat} {m : List Int} (i : Nat) (hi : L[i]? = some (row IW 2 (.slice A' n' c') m)) (hb : m.length ≤ 1048576) (HS : Sat W0 w L) :
    Calls Try.prog 30 #[.slice A' n' c'] w fun e w' => ∃ v, e = .returned v ∧ Sat W0 w' (row IW 2 v m :: L) := by
  obtain ⟨e, hc⟩ := HS.cap i hi
  subst e
  have q0 := eqW_nil c'
  have q1 := fun ad k => eqW_some ad k c'
  cases A' with
  | none =>
    have hm : m = [] := by
      cases m with
      | nil => rfl
      | cons x m => obtain ⟨ad, h, _⟩ := Kd.at_int (HS.C i hi) 0 (by omega) (by simp); cases h
    subst hm
    go_enter Try.func30, Try.ntmps30
    go_wp2
    go_ret
    exact ⟨_, rfl, HS.nil _ _⟩
  | some ad =>
    have HI := Aside0.mk hi
    clear hi
    go_enter Try.func30, Try.ntmps30
    go_wp2_with (first | ((with_reducible refine gate_dst (N := 5) rfl ?_); go_must (refine ev_lit IW (e := 2) HS rfl (N := 5) rfl (xs := ([] : List Int)) (inner := []) ?hrun (Reps.none _ _) (by first | decide | simp) ?_); (case hrun => first | (go_simp; done) | (go_simp; rfl)); clear HS; intro gl w HS) | ((with_reducible refine gate_builtin (b := .append) (xs := #[.tmp 5, .tmp 6]) rfl ?_); go_must (refine ev_append IW HS 0 (.tmp 5) (.tmp 6) 40 2 (.int .i64 0) 8 rfl (HS.C (i + 1) (by rw [List.getElem?_cons_succ]; exact HI.out)) (fun _ _ h => h) rfl rfl rfl rfl Try.underlying40 info2 rfl (by decide) (by omega) ((by simp; omega)) ?_); clear HS; intro vo w HS))
    go_ret
    rw [List.nil_append] at HS
    exact ⟨_, rfl, HS⟩

set_option maxRecDepth 100000 in
set_option maxHeartbeats 2000000 in
theorem known_none {X : SM} (hml : X.mem.length ≤ 1048576) (hbl : X.buf.length ≤ 1000000) (hp : X.saved = none) (HS : Sat W0 w (mch g A n c vc vt win X :: L)) :
    Calls Try.prog 20 #[.pointer (some ⟨g, 0, none⟩)] w fun e w' => ∃ v, e = .returned (.tuple #[.agg (stL X.s).toArray, v]) ∧ Sat W0 w' (row IW 2 v (wrs X.mem X.buf) :: mch g A n c vc vt win X :: L) := by
  obtain ⟨vb, vs, hs, HS⟩ := mOpen HS
  obtain ⟨Ab, cq, rfl, hcq⟩ := HS.queSlice 1 rfl
  obtain ⟨⟨As, cs, rfl, hcs⟩, hsv⟩ := svdSlice HS 3 rfl
  rw [hp] at hsv
  obtain ⟨nb, hnb⟩ : ∃ nb, (X.buf.map wc).length = nb := ⟨_, rfl⟩
  rw [hnb] at HS hcq
  rw [List.length_map] at hnb
  have HNB := Aside0.mk hnb
  have h0 : decide (0 < X.n) = false := hsv.symm
  clear hnb hsv
  go_enter Try.func20, Try.ntmps20
  go_upto_region 3 with ((with_reducible refine gate_dst (N := 2) rfl ?_); go_must (refine ev_box HS rfl (N := 2) rfl (cs := (stL z0).toArray) (t := 37) ?hrun ?_); (case hrun => first | (go_simp; done) | (go_simp; rfl)); clear HS; intro g2 w HS)
  replace HS := HS.swap
  refine start_ (n := 11) (S := fun w' => ∃ L', Sat W0 w' (MB g X.s vc (.slice A n c) (.slice Ab nb cq) (.slice As X.n cs) vt win X.left :: L')) (ds := []) #[false, false, false, false, false, false, false, false, false, false, false] (by kernel_rfl) rfl rfl ⟨_, HS.drew⟩ (fun hHeld => ?_)
  replace HS := HS.drew
  generalize World.drew w = w at HS hHeld ⊢
  refine pure_ (i := 0) (N := some 12) (v := ?_) (a' := ?_) #[true, false, false, false, false, false, false, false, false, false, false] rfl rfl (by kernel_rfl) (fun _ _ _ h => h) (Or.inl ⟨by rfl, ?_⟩) ?_ ?_
  rotate_left
  · intro w'
    go_simp
    with_reducible rfl
  rotate_left
  · (try simp only [Act.put, List.setIfInBounds_toArray, List.set_cons_zero, List.set_cons_succ, i64_w, i32_w])
    rfl
  refine pure_ (i := 1) (N := some 13) (v := ?_) (a' := ?_) #[true, true, false, false, false, false, false, false, false, false, false] rfl rfl (by kernel_rfl) (fun _ _ _ h => h) (Or.inl ⟨by rfl, ?_⟩) ?_ ?_
  rotate_left
  · intro w'
    go_simp
    with_reducible rfl
  rotate_left
  · (try simp only [Act.put, List.setIfInBounds_toArray, List.set_cons_zero, List.set_cons_succ, i64_w, i32_w])
    rfl
  refine pure_ (i := 2) (N := some 14) (v := ?_) (a' := ?_) #[true, true, true, false, false, false, false, false, false, false, false] rfl rfl (by kernel_rfl) (fun _ _ _ h => h) (Or.inl ⟨by rfl, ?_⟩) ?_ ?_
  rotate_left
  · intro w'
    go_simp
    with_reducible rfl
  rotate_left
  · (try simp only [Act.put, List.setIfInBounds_toArray, List.set_cons_zero, List.set_cons_succ, i64_w, i32_w])
    rfl
  refine take_ (i := 3) (N := some 15) (v := ?_) (a' := ?_) #[true, true, true, true, false, false, false, false, false, false, false] rfl rfl (by kernel_rfl) (fun _ _ _ h => h) (Or.inl ⟨by rfl, ?_⟩) hHeld ?_ ?_
  rotate_left
  · rintro w' hS
    obtain ⟨L', hS⟩ := hS
    have c71 : w'.cell? ⟨g, 71, none⟩ = some (.slice Ab nb cq) := mcellT hs hS 0 rfl 2
    refine run_load_at 37 (.tmp 14) (stL X.s) ?_ ?_ _ Try.underlying37 rfl (len32 hs) (fun j v hj => by have hj2 := (List.getElem?_eq_some_iff.1 hj).1; rw [stL_length hs] at hj2; rw [show (⟨g, 0, none⟩ : Addr).add j = ⟨g, j, none⟩ from by unfold Addr.add; split <;> simp_all, mcell hs hS 0 rfl j hj2]; exact hj) <;> rfl
  rotate_left
  · (try simp only [Act.put, List.setIfInBounds_toArray, List.set_cons_zero, List.set_cons_succ, i64_w, i32_w])
    rfl
  refine pure_ (i := 4) (N := some 16) (v := ?_) (a' := ?_) #[true, true, true, true, true, false, false, false, false, false, false] rfl rfl (by kernel_rfl) (fun _ _ _ h => h) (Or.inl ⟨by rfl, ?_⟩) ?_ ?_
  rotate_left
  · intro w'
    go_simp
    with_reducible rfl
  rotate_left
  · (try simp only [Act.put, List.setIfInBounds_toArray, List.set_cons_zero, List.set_cons_succ, i64_w, i32_w])
    rfl
  refine pure_ (i := 5) (N := some 17) (v := ?_) (a' := ?_) #[true, true, true, true, true, true, false, false, false, false, false] rfl rfl (by kernel_rfl) (fun _ _ _ h => h) (Or.inl ⟨by rfl, ?_⟩) ?_ ?_
  rotate_left
  · intro w'
    go_simp
    with_reducible rfl
  rotate_left
  · (try simp only [Act.put, List.setIfInBounds_toArray, List.set_cons_zero, List.set_cons_succ, i64_w, i32_w])
    rfl
  refine pure_ (i := 6) (N := some 18) (v := ?_) (a' := ?_) #[true, true, true, true, true, true, true, false, false, false, false] rfl rfl (by kernel_rfl) (fun _ _ _ h => h) (Or.inl ⟨by rfl, ?_⟩) ?_ ?_
  rotate_left
  · intro w'
    go_simp
    with_reducible rfl
  rotate_left
  · (try simp only [Act.put, List.setIfInBounds_toArray, List.set_cons_zero, List.set_cons_succ, i64_w, i32_w])
    rfl
  refine take_ (i := 7) (N := some 19) (v := ?_) (a' := ?_) #[true, true, true, true, true, true, true, true, false, false, false] rfl rfl (by kernel_rfl) (fun _ _ _ h => h) (Or.inl ⟨by rfl, ?_⟩) hHeld ?_ ?_
  rotate_left
  · rintro w' hS
    obtain ⟨L', hS⟩ := hS
    have c71 : w'.cell? ⟨g, 71, none⟩ = some (.slice Ab nb cq) := mcellT hs hS 0 rfl 2
    go_simp
    with_reducible rfl
  rotate_left
  · (try simp only [Act.put, List.setIfInBounds_toArray, List.set_cons_zero, List.set_cons_succ, i64_w, i32_w])
    rfl
  refine one_ (i := 8) (N := some 4) #[true, true, true, true, true, true, true, true, true, false, false] rfl rfl (by kernel_rfl) (by decide) (fun K hK => ?_)
  refine ev_box_step HS (by rfl) (N := 4) rfl (cs := (stL z0).toArray) (t := 37) ?hrun ?_
  (case hrun => first | (go_simp; done) | (go_simp; rfl))
  clear HS
  intro g4 w HS
  refine hK.out _ _ ⟨_, HS.tail⟩ (fun hHeld => ?_)
  clear hK K
  refine norm_ (a' := ?_) ?_ ?_
  rotate_left
  · show Act.put _ _ _ = _
    (try simp only [Act.put, List.setIfInBounds_toArray, List.set_cons_zero, List.set_cons_succ, i64_w, i32_w])
    rfl
  refine one_ (i := 9) (N := none) #[true, true, true, true, true, true, true, true, true, true, false] rfl rfl (by kernel_rfl) (by decide) (fun K hK => ?_)
  refine ev_store_step HS 0 rfl (by rfl) 37 (.tmp 4) (.tmp 15) rfl rfl rfl (stL X.s) rfl (len32 hs) (by rw [stL_length hs]; rfl) (stL_one _) ?_
  clear HS
  intro w HS
  refine hK.out _ _ ⟨_, HS.tail⟩ (fun hHeld => ?_)
  clear hK K
  refine pure_ (i := 10) (N := some 5) (v := ?_) (a' := ?_) #[true, true, true, true, true, true, true, true, true, true, true] rfl rfl (by kernel_rfl) (fun _ _ _ h => h) (Or.inl ⟨by rfl, ?_⟩) ?_ ?_
  rotate_left
  · intro w'
    go_simp
    with_reducible rfl
  rotate_left
  · (try simp only [Act.put, List.setIfInBounds_toArray, List.set_cons_zero, List.set_cons_succ, i64_w, i32_w])
    rfl
  refine done_ (by kernel_rfl) ?_
  clear hHeld
  have c72 : w.cell? ⟨g, 72, none⟩ = some (.slice As X.n cs) := mcellT hs HS 1 rfl 3
  go_upto_region 6 with (fail)
  clear c72
  rw [← HNB.out] at HS ⊢
  replace HS : Sat W0 w (blk g4 37 (stL X.s).toArray :: blk g2 37 (stL z0).toArray :: MB g X.s vc (.slice A n c) (.slice Ab X.buf.length cq) (.slice As X.n cs) vt win X.left :: BQ (.slice Ab X.buf.length cq) X.buf :: row IW 2 (.slice A n c) X.mem :: SVD (.slice As X.n cs) X.saved X.n :: L) := (HS.front 2 rfl).swap
  have HM := mcellT (w := w) hs HS 2 rfl
  have c70 : w.cell? ⟨g, 70, none⟩ = some (.slice A n c) := mcellT hs HS 2 rfl 1
  clear HM
  go_upto_region 7 with (go_at_call 30; refine (clonew_calls 4 rfl hml HS).mono ?_; rintro e w_ ⟨v, rfl, HS_⟩; clear HS c70; have HS := HS_; clear HS_; obtain ⟨Am, cm, rfl⟩ := HS.slice 0 rfl)
  obtain ⟨lm, hlm⟩ : ∃ lm, X.mem.length = lm := ⟨_, rfl⟩
  rw [hlm] at HS ⊢
  have HLM := Aside0.mk hlm
  clear hlm
  go_wp2
  go_loopg [47] (X.buf.length + 1) (fun kq v47 w' => ∃ (i : Nat), v47 = .int .i64 (i : Int) ∧ Aside0 (i ≤ X.buf.length ∧ X.buf.length + 1 ≤ kq + i) ∧ Aside0 (Sat W0 w' (row IW 2 (.slice Am lm cm) (wrs X.mem (X.buf.take i)) :: blk g4 37 (stL X.s).toArray :: blk g2 37 (stL z0).toArray :: MB g X.s vc (.slice A n c) (.slice Ab X.buf.length cq) (.slice As X.n cs) vt win X.left :: BQ (.slice Ab X.buf.length cq) X.buf :: row IW 2 (.slice A n c) X.mem :: SVD (.slice As X.n cs) X.saved X.n :: L)))
  case atStart => exact ⟨0, rfl, ⟨by omega, by omega⟩, ⟨HS⟩⟩
  case round =>
    clear HS
    obtain ⟨i, rfl, HJ, HS'⟩ := hrel
    have HS := HS'.out
    clear HS'
    cases gk with
    | zero => have := HJ.out; omega
    | succ k1 =>
      by_cases hk : i < X.buf.length
      · obtain ⟨I, hI_⟩ : ∃ I : Int, (i : Int) = I := ⟨_, rfl⟩
        have p1 : 0 ≤ I := by omega
        have q1 : I < (X.buf.length : Int) := by omega
        have c1_ : decide (I < (X.buf.length : Int)) = true := decide_eq_true q1
        obtain ⟨ad, x, rfl, hx, _, hxc⟩ := HS.queGet 4 rfl I p1 q1
        rw [List.getElem?_map, show I.toNat = i by omega, List.getElem?_eq_getElem hk] at hx
        obtain ⟨y, hy⟩ : ∃ y, y = X.buf[i] := ⟨_, rfl⟩
        have HT := Aside0.mk (show wrs X.mem (X.buf.take (i + 1)) = (wWr (wrs X.mem (X.buf.take i)) y.1 y.2).1 by rw [List.take_succ_eq_append_getElem hk, wrs_append, hy]; rfl)
        rw [← hy] at hx
        obtain rfl := Option.some.inj hx
        obtain ⟨y1, y2⟩ := y
        have x0 : wr.cell? (ad.add (I.toNat * 2)) = some (.int .i64 y1) := hxc 0 _ rfl
        have x1 : wr.cell? ⟨(ad.add (I.toNat * 2)).block, (ad.add (I.toNat * 2)).off + 1, none⟩ = some (.int .i64 y2) := by rw [← add_field _ _ 1 (by omega)]; exact hxc 1 _ rfl
        have r1 := eq_true p1
        have r2 := eq_true q1
        rw [hI_]
        have HII := Aside0.mk hI_
        have hwi : wrap64 (I + 1) = I + 1 := w64 _ (by omega) (by omega)
        clear hx hxc hy hI_ hk
        go_upto_region 10 with (first | ((with_reducible refine gate_dst (N := 8) rfl ?_); go_must (refine ev_box HS rfl (N := 8) rfl (cs := #[.int .i64 0, .int .i64 0]) (t := 85) ?hrun ?_); (case hrun => first | (go_simp; done) | (go_simp; rfl)); clear HS; intro gw w HS) | ((with_reducible refine gate_store (t := 85) (p := 8) rfl ?_); go_must (refine ev_store HS 0 rfl rfl 85 (.tmp 8) (.tmp 50) rfl rfl rfl [.int .i64 y1, .int .i64 y2] ?hx (by kernel_rfl) (by rfl) ?h1 ?_); (case hx => first | rfl | (go_simp; done)); (case h1 => simp [Value.oneCell']); clear HS; intro w HS))
        have cw := HS.cell 0 rfl
        go_upto_region 11 with (go_at_call 31; refine (write_calls (m := wrs X.mem (X.buf.take i)) y1 y2 1 rfl HS).mono ?_; rintro e w_ ⟨rfl, HS_⟩; clear HS; have HS := HS_; clear HS_)
        clear cw
        go_wp2
        go_roundg k1
        case measure => omega
        case rel =>
          refine ⟨i + 1, by rw [← HII.out]; rfl, ⟨by have := HJ.out; have := HII.out; omega, by have := HJ.out; omega⟩, ⟨?_⟩⟩
          rw [HT.out]
          exact HS.tail
      · have hkk : i = X.buf.length := by have := HJ.out.1; omega
        subst hkk
        have hkb : decide (X.buf.length < X.buf.length) = false := decide_eq_false (Nat.lt_irrefl _)
        rw [List.take_length] at HS
        go_wp2_with (first | ((with_reducible refine gate_load (ty := 37) (p := 4) rfl ?_); go_must (refine ev_load HS 1 rfl rfl 37 (.tmp 4) rfl (N := 58) rfl rfl _ Try.underlying37 rfl (size32 hs) ?_)) | ((with_reducible refine gate_store (t := 37) (p := 2) rfl ?_); go_must (refine ev_store HS 2 rfl rfl 37 (.tmp 2) (.tmp 58) rfl rfl rfl (stL X.s) rfl (len32 hs) (by rw [stL_length hs]; rfl) (stL_one _) ?_); clear HS; intro w HS))
        have k1 : Sat W0 w (row IW 2 (.slice Am lm cm) (wrs X.mem X.buf) :: MB g X.s vc (.slice A n c) (.slice Ab X.buf.length cq) (.slice As X.n cs) vt win X.left :: BQ (.slice Ab X.buf.length cq) X.buf :: row IW 2 (.slice A n c) X.mem :: SVD (.slice As X.n cs) X.saved X.n :: L) := (HS.erase 1).erase 1
        have k2 := (mClose hs (k1.insert 4 (by simp))).swap
        exact bodyPost_ret (v := .tuple #[.agg (stL X.s).toArray, .slice Am lm cm]) (results_ct (p := 2) (u := 3) (ty := 37) rfl _ w g2 _ _ _ _ rfl (HS.blk 2 rfl) Try.underlying37 rfl (size32 hs)) rfl ⟨_, rfl, k2⟩

set_option maxRecDepth 100000 in
set_option maxHeartbeats 2000000 in
theorem known_some {X : SM} (hml : X.mem.length ≤ 1048576) (hbl : X.buf.length ≤ 1000000) {s0 : St} {b0 : List (Int × Int)} (hp : X.saved = some (s0, b0)) (hb0 : b0.length ≤ 1000000) (HS : Sat W0 w (mch g A n c vc vt win X :: L)) :
    Calls Try.prog 20 #[.pointer (some ⟨g, 0, none⟩)] w fun e w' => ∃ v, e = .returned (.tuple #[.agg (stL s0).toArray, v]) ∧ Sat W0 w' (row IW 2 v (wrs X.mem b0) :: mch g A n c vc vt win X :: L) := by
  obtain ⟨vb, vs, hs, HS⟩ := mOpen HS
  obtain ⟨Ab, cq, rfl, hcq⟩ := HS.queSlice 1 rfl
  obtain ⟨⟨As, cs, rfl, hcs⟩, hsv⟩ := svdSlice HS 3 rfl
  rw [hp] at hsv
  obtain ⟨nb, hnb⟩ : ∃ nb, (X.buf.map wc).length = nb := ⟨_, rfl⟩
  rw [hnb] at HS hcq
  clear hnb
  have h0 : decide (0 < X.n) = true := hsv.symm
  clear hsv
  go_enter Try.func20, Try.ntmps20
  go_upto_region 3 with ((with_reducible refine gate_dst (N := 2) rfl ?_); go_must (refine ev_box HS rfl (N := 2) rfl (cs := (stL z0).toArray) (t := 37) ?hrun ?_); (case hrun => first | (go_simp; done) | (go_simp; rfl)); clear HS; intro g2 w HS)
  replace HS := HS.swap
  refine start_ (n := 11) (S := fun w' => ∃ L', Sat W0 w' (MB g X.s vc (.slice A n c) (.slice Ab nb cq) (.slice As X.n cs) vt win X.left :: L')) (ds := []) #[false, false, false, false, false, false, false, false, false, false, false] (by kernel_rfl) rfl rfl ⟨_, HS.drew⟩ (fun hHeld => ?_)
  replace HS := HS.drew
  generalize World.drew w = w at HS hHeld ⊢
  refine pure_ (i := 0) (N := some 12) (v := ?_) (a' := ?_) #[true, false, false, false, false, false, false, false, false, false, false] rfl rfl (by kernel_rfl) (fun _ _ _ h => h) (Or.inl ⟨by rfl, ?_⟩) ?_ ?_
  rotate_left
  · intro w'
    go_simp
    with_reducible rfl
  rotate_left
  · (try simp only [Act.put, List.setIfInBounds_toArray, List.set_cons_zero, List.set_cons_succ, i64_w, i32_w])
    rfl
  refine pure_ (i := 1) (N := some 13) (v := ?_) (a' := ?_) #[true, true, false, false, false, false, false, false, false, false, false] rfl rfl (by kernel_rfl) (fun _ _ _ h => h) (Or.inl ⟨by rfl, ?_⟩) ?_ ?_
  rotate_left
  · intro w'
    go_simp
    with_reducible rfl
  rotate_left
  · (try simp only [Act.put, List.setIfInBounds_toArray, List.set_cons_zero, List.set_cons_succ, i64_w, i32_w])
    rfl
  refine pure_ (i := 2) (N := some 14) (v := ?_) (a' := ?_) #[true, true, true, false, false, false, false, false, false, false, false] rfl rfl (by kernel_rfl) (fun _ _ _ h => h) (Or.inl ⟨by rfl, ?_⟩) ?_ ?_
  rotate_left
  · intro w'
    go_simp
    with_reducible rfl
  rotate_left
  · (try simp only [Act.put, List.setIfInBounds_toArray, List.set_cons_zero, List.set_cons_succ, i64_w, i32_w])
    rfl
  refine take_ (i := 3) (N := some 15) (v := ?_) (a' := ?_) #[true, true, true, true, false, false, false, false, false, false, false] rfl rfl (by kernel_rfl) (fun _ _ _ h => h) (Or.inl ⟨by rfl, ?_⟩) hHeld ?_ ?_
  rotate_left
  · rintro w' hS
    obtain ⟨L', hS⟩ := hS
    have c71 : w'.cell? ⟨g, 71, none⟩ = some (.slice Ab nb cq) := mcellT hs hS 0 rfl 2
    refine run_load_at 37 (.tmp 14) (stL X.s) ?_ ?_ _ Try.underlying37 rfl (len32 hs) (fun j v hj => by have hj2 := (List.getElem?_eq_some_iff.1 hj).1; rw [stL_length hs] at hj2; rw [show (⟨g, 0, none⟩ : Addr).add j = ⟨g, j, none⟩ from by unfold Addr.add; split <;> simp_all, mcell hs hS 0 rfl j hj2]; exact hj) <;> rfl
  rotate_left
  · (try simp only [Act.put, List.setIfInBounds_toArray, List.set_cons_zero, List.set_cons_succ, i64_w, i32_w])
    rfl
  refine pure_ (i := 4) (N := some 16) (v := ?_) (a' := ?_) #[true, true, true, true, true, false, false, false, false, false, false] rfl rfl (by kernel_rfl) (fun _ _ _ h => h) (Or.inl ⟨by rfl, ?_⟩) ?_ ?_
  rotate_left
  · intro w'
    go_simp
    with_reducible rfl
  rotate_left
  · (try simp only [Act.put, List.setIfInBounds_toArray, List.set_cons_zero, List.set_cons_succ, i64_w, i32_w])
    rfl
  refine pure_ (i := 5) (N := some 17) (v := ?_) (a' := ?_) #[true, true, true, true, true, true, false, false, false, false, false] rfl rfl (by kernel_rfl) (fun _ _ _ h => h) (Or.inl ⟨by rfl, ?_⟩) ?_ ?_
  rotate_left
  · intro w'
    go_simp
    with_reducible rfl
  rotate_left
  · (try simp only [Act.put, List.setIfInBounds_toArray, List.set_cons_zero, List.set_cons_succ, i64_w, i32_w])
    rfl
  refine pure_ (i := 6) (N := some 18) (v := ?_) (a' := ?_) #[true, true, true, true, true, true, true, false, false, false, false] rfl rfl (by kernel_rfl) (fun _ _ _ h => h) (Or.inl ⟨by rfl, ?_⟩) ?_ ?_
  rotate_left
  · intro w'
    go_simp
    with_reducible rfl
  rotate_left
  · (try simp only [Act.put, List.setIfInBounds_toArray, List.set_cons_zero, List.set_cons_succ, i64_w, i32_w])
    rfl
  refine take_ (i := 7) (N := some 19) (v := ?_) (a' := ?_) #[true, true, true, true, true, true, true, true, false, false, false] rfl rfl (by kernel_rfl) (fun _ _ _ h => h) (Or.inl ⟨by rfl, ?_⟩) hHeld ?_ ?_
  rotate_left
  · rintro w' hS
    obtain ⟨L', hS⟩ := hS
    have c71 : w'.cell? ⟨g, 71, none⟩ = some (.slice Ab nb cq) := mcellT hs hS 0 rfl 2
    go_simp
    with_reducible rfl
  rotate_left
  · (try simp only [Act.put, List.setIfInBounds_toArray, List.set_cons_zero, List.set_cons_succ, i64_w, i32_w])
    rfl
  refine one_ (i := 8) (N := some 4) #[true, true, true, true, true, true, true, true, true, false, false] rfl rfl (by kernel_rfl) (by decide) (fun K hK => ?_)
  refine ev_box_step HS (by rfl) (N := 4) rfl (cs := (stL z0).toArray) (t := 37) ?hrun ?_
  (case hrun => first | (go_simp; done) | (go_simp; rfl))
  clear HS
  intro g4 w HS
  refine hK.out _ _ ⟨_, HS.tail⟩ (fun hHeld => ?_)
  clear hK K
  refine norm_ (a' := ?_) ?_ ?_
  rotate_left
  · show Act.put _ _ _ = _
    (try simp only [Act.put, List.setIfInBounds_toArray, List.set_cons_zero, List.set_cons_succ, i64_w, i32_w])
    rfl
  refine one_ (i := 9) (N := none) #[true, true, true, true, true, true, true, true, true, true, false] rfl rfl (by kernel_rfl) (by decide) (fun K hK => ?_)
  refine ev_store_step HS 0 rfl (by rfl) 37 (.tmp 4) (.tmp 15) rfl rfl rfl (stL X.s) rfl (len32 hs) (by rw [stL_length hs]; rfl) (stL_one _) ?_
  clear HS
  intro w HS
  refine hK.out _ _ ⟨_, HS.tail⟩ (fun hHeld => ?_)
  clear hK K
  refine pure_ (i := 10) (N := some 5) (v := ?_) (a' := ?_) #[true, true, true, true, true, true, true, true, true, true, true] rfl rfl (by kernel_rfl) (fun _ _ _ h => h) (Or.inl ⟨by rfl, ?_⟩) ?_ ?_
  rotate_left
  · intro w'
    go_simp
    with_reducible rfl
  rotate_left
  · (try simp only [Act.put, List.setIfInBounds_toArray, List.set_cons_zero, List.set_cons_succ, i64_w, i32_w])
    rfl
  refine done_ (by kernel_rfl) ?_
  clear hHeld
  have c72 : w.cell? ⟨g, 72, none⟩ = some (.slice As X.n cs) := mcellT hs HS 1 rfl 3
  go_upto_region 5 with (fail)
  clear c72
  replace HS := HS.front 5 rfl
  rw [hp] at HS
  obtain ⟨⟨⟨v0, cl⟩, hnn, hs0⟩, HS⟩ := Sat.openEx HS
  replace HS := Sat.split HS
  dsimp only at HS hnn hs0
  obtain ⟨A0, c0, rfl, _⟩ := HS.queSlice 1 rfl
  rw [List.length_map] at HS
  obtain ⟨_, ad, rfl, _, _⟩ := pt_head hs0 HS 0 rfl
  have r1 := eq_true (show (0 : Int) < (X.n : Int) by omega)
  have HNN := Aside0.mk hnn
  clear hnn hcs
  replace HS : Sat W0 w (MB g X.s vc (.slice A n c) (.slice Ab nb cq) (.slice (some ad) X.n cs) vt win X.left :: que 82 70 (.slice (some ad) X.n cs) ((stL s0 ++ [Value.slice A0 b0.length c0]) :: cl) :: blk g4 37 (stL X.s).toArray :: blk g2 37 (stL z0).toArray :: BQ (.slice A0 b0.length c0) b0 :: BQ (.slice Ab nb cq) X.buf :: row IW 2 (.slice A n c) X.mem :: L) := by
    have h1 := HS.front 1 rfl
    have h2 : Sat W0 w (que 82 70 (.slice (some ad) X.n cs) ((stL s0 ++ [Value.slice A0 b0.length c0]) :: cl) :: blk g4 37 (stL X.s).toArray :: MB g X.s vc (.slice A n c) (.slice Ab nb cq) (.slice (some ad) X.n cs) vt win X.left :: blk g2 37 (stL z0).toArray :: BQ (.slice A0 b0.length c0) b0 :: BQ (.slice Ab nb cq) X.buf :: row IW 2 (.slice A n c) X.mem :: L) := h1.insert 4 (by simp)
    exact h2.front 2 rfl
  refine start_ (n := 16) (S := fun w' => ∃ L', Sat W0 w' (MB g X.s vc (.slice A n c) (.slice Ab nb cq) (.slice (some ad) X.n cs) vt win X.left :: que 82 70 (.slice (some ad) X.n cs) ((stL s0 ++ [Value.slice A0 b0.length c0]) :: cl) :: L')) (ds := []) #[false, false, false, false, false, false, false, false, false, false, false, false, false, false, false, false] (by kernel_rfl) rfl rfl ⟨_, HS.drew⟩ (fun hHeld => ?_)
  replace HS := HS.drew
  generalize World.drew w = w at HS hHeld ⊢
  refine pure_ (i := 0) (N := some 26) (v := ?_) (a' := ?_) #[true, false, false, false, false, false, false, false, false, false, false, false, false, false, false, false] rfl rfl (by kernel_rfl) (fun _ _ _ h => h) (Or.inl ⟨by rfl, ?_⟩) ?_ ?_
  rotate_left
  · intro w'
    go_simp
    with_reducible rfl
  rotate_left
  · (try simp only [Act.put, List.setIfInBounds_toArray, List.set_cons_zero, List.set_cons_succ, i64_w, i32_w])
    rfl
  refine pure_ (i := 1) (N := some 27) (v := ?_) (a' := ?_) #[true, true, false, false, false, false, false, false, false, false, false, false, false, false, false, false] rfl rfl (by kernel_rfl) (fun _ _ _ h => h) (Or.inl ⟨by rfl, ?_⟩) ?_ ?_
  rotate_left
  · intro w'
    go_simp
    with_reducible rfl
  rotate_left
  · (try simp only [Act.put, List.setIfInBounds_toArray, List.set_cons_zero, List.set_cons_succ, i64_w, i32_w])
    rfl
  refine pure_ (i := 2) (N := some 28) (v := ?_) (a' := ?_) #[true, true, true, false, false, false, false, false, false, false, false, false, false, false, false, false] rfl rfl (by kernel_rfl) (fun _ _ _ h => h) (Or.inl ⟨by rfl, ?_⟩) ?_ ?_
  rotate_left
  · intro w'
    go_simp
    with_reducible rfl
  rotate_left
  · (try simp only [Act.put, List.setIfInBounds_toArray, List.set_cons_zero, List.set_cons_succ, i64_w, i32_w])
    rfl
  refine take_ (i := 3) (N := some 29) (v := ?_) (a' := ?_) #[true, true, true, true, false, false, false, false, false, false, false, false, false, false, false, false] rfl rfl (by kernel_rfl) (fun _ _ _ h => h) (Or.inl ⟨by rfl, ?_⟩) hHeld ?_ ?_
  rotate_left
  · rintro w' hS
    obtain ⟨L', hS⟩ := hS
    have c72 : w'.cell? ⟨g, 72, none⟩ = some (.slice (some ad) X.n cs) := mcellT hs hS 0 rfl 3
    obtain ⟨_, ad2, e2, x0, x1⟩ := pt_head hs0 hS 1 rfl
    cases e2
    go_simp
    with_reducible rfl
  rotate_left
  · (try simp only [Act.put, List.setIfInBounds_toArray, List.set_cons_zero, List.set_cons_succ, i64_w, i32_w])
    rfl
  refine pure_ (i := 4) (N := some 30) (v := ?_) (a' := ?_) #[true, true, true, true, true, false, false, false, false, false, false, false, false, false, false, false] rfl rfl (by kernel_rfl) (fun _ _ _ h => h) (Or.inl ⟨by rfl, ?_⟩) ?_ ?_
  rotate_left
  · intro w'
    go_simp
    with_reducible rfl
  rotate_left
  · (try simp only [Act.put, List.setIfInBounds_toArray, List.set_cons_zero, List.set_cons_succ, i64_w, i32_w])
    rfl
  refine pure_ (i := 5) (N := some 31) (v := ?_) (a' := ?_) #[true, true, true, true, true, true, false, false, false, false, false, false, false, false, false, false] rfl rfl (by kernel_rfl) (fun _ _ _ h => h) (Or.inl ⟨by rfl, ?_⟩) ?_ ?_
  rotate_left
  · intro w'
    go_simp
    with_reducible rfl
  rotate_left
  · (try simp only [Act.put, List.setIfInBounds_toArray, List.set_cons_zero, List.set_cons_succ, i64_w, i32_w])
    rfl
  refine take_ (i := 6) (N := some 32) (v := ?_) (a' := ?_) #[true, true, true, true, true, true, true, false, false, false, false, false, false, false, false, false] rfl rfl (by kernel_rfl) (fun _ _ _ h => h) (Or.inl ⟨by rfl, ?_⟩) hHeld ?_ ?_
  rotate_left
  · rintro w' hS
    obtain ⟨L', hS⟩ := hS
    have c72 : w'.cell? ⟨g, 72, none⟩ = some (.slice (some ad) X.n cs) := mcellT hs hS 0 rfl 3
    obtain ⟨_, ad2, e2, x0, x1⟩ := pt_head hs0 hS 1 rfl
    cases e2
    refine run_load_at 37 (.tmp 31) (stL s0) ?_ ?_ _ Try.underlying37 rfl (len32 hs0) x0 <;> rfl
  rotate_left
  · (try simp only [Act.put, List.setIfInBounds_toArray, List.set_cons_zero, List.set_cons_succ, i64_w, i32_w])
    rfl
  refine pure_ (i := 7) (N := some 33) (v := ?_) (a' := ?_) #[true, true, true, true, true, true, true, true, false, false, false, false, false, false, false, false] rfl rfl (by kernel_rfl) (fun _ _ _ h => h) (Or.inl ⟨by rfl, ?_⟩) ?_ ?_
  rotate_left
  · intro w'
    go_simp
    with_reducible rfl
  rotate_left
  · (try simp only [Act.put, List.setIfInBounds_toArray, List.set_cons_zero, List.set_cons_succ, i64_w, i32_w])
    rfl
  refine pure_ (i := 8) (N := some 34) (v := ?_) (a' := ?_) #[true, true, true, true, true, true, true, true, true, false, false, false, false, false, false, false] rfl rfl (by kernel_rfl) (fun _ _ _ h => h) (Or.inl ⟨by rfl, ?_⟩) ?_ ?_
  rotate_left
  · intro w'
    go_simp
    with_reducible rfl
  rotate_left
  · (try simp only [Act.put, List.setIfInBounds_toArray, List.set_cons_zero, List.set_cons_succ, i64_w, i32_w])
    rfl
  refine pure_ (i := 9) (N := some 35) (v := ?_) (a' := ?_) #[true, true, true, true, true, true, true, true, true, true, false, false, false, false, false, false] rfl rfl (by kernel_rfl) (fun _ _ _ h => h) (Or.inl ⟨by rfl, ?_⟩) ?_ ?_
  rotate_left
  · intro w'
    go_simp
    with_reducible rfl
  rotate_left
  · (try simp only [Act.put, List.setIfInBounds_toArray, List.set_cons_zero, List.set_cons_succ, i64_w, i32_w])
    rfl
  refine take_ (i := 10) (N := some 36) (v := ?_) (a' := ?_) #[true, true, true, true, true, true, true, true, true, true, true, false, false, false, false, false] rfl rfl (by kernel_rfl) (fun _ _ _ h => h) (Or.inl ⟨by rfl, ?_⟩) hHeld ?_ ?_
  rotate_left
  · rintro w' hS
    obtain ⟨L', hS⟩ := hS
    have c72 : w'.cell? ⟨g, 72, none⟩ = some (.slice (some ad) X.n cs) := mcellT hs hS 0 rfl 3
    obtain ⟨_, ad2, e2, x0, x1⟩ := pt_head hs0 hS 1 rfl
    cases e2
    go_simp
    with_reducible rfl
  rotate_left
  · (try simp only [Act.put, List.setIfInBounds_toArray, List.set_cons_zero, List.set_cons_succ, i64_w, i32_w])
    rfl
  refine pure_ (i := 11) (N := some 37) (v := ?_) (a' := ?_) #[true, true, true, true, true, true, true, true, true, true, true, true, false, false, false, false] rfl rfl (by kernel_rfl) (fun _ _ _ h => h) (Or.inl ⟨by rfl, ?_⟩) ?_ ?_
  rotate_left
  · intro w'
    go_simp
    with_reducible rfl
  rotate_left
  · (try simp only [Act.put, List.setIfInBounds_toArray, List.set_cons_zero, List.set_cons_succ, i64_w, i32_w])
    rfl
  refine pure_ (i := 12) (N := some 38) (v := ?_) (a' := ?_) #[true, true, true, true, true, true, true, true, true, true, true, true, true, false, false, false] rfl rfl (by kernel_rfl) (fun _ _ _ h => h) (Or.inl ⟨by rfl, ?_⟩) ?_ ?_
  rotate_left
  · intro w'
    go_simp
    with_reducible rfl
  rotate_left
  · (try simp only [Act.put, List.setIfInBounds_toArray, List.set_cons_zero, List.set_cons_succ, i64_w, i32_w])
    rfl
  refine take_ (i := 13) (N := some 39) (v := ?_) (a' := ?_) #[true, true, true, true, true, true, true, true, true, true, true, true, true, true, false, false] rfl rfl (by kernel_rfl) (fun _ _ _ h => h) (Or.inl ⟨by rfl, ?_⟩) hHeld ?_ ?_
  rotate_left
  · rintro w' hS
    obtain ⟨L', hS⟩ := hS
    have c72 : w'.cell? ⟨g, 72, none⟩ = some (.slice (some ad) X.n cs) := mcellT hs hS 0 rfl 3
    obtain ⟨_, ad2, e2, x0, x1⟩ := pt_head hs0 hS 1 rfl
    cases e2
    go_simp
    with_reducible rfl
  rotate_left
  · (try simp only [Act.put, List.setIfInBounds_toArray, List.set_cons_zero, List.set_cons_succ, i64_w, i32_w])
    rfl
  refine one_ (i := 14) (N := none) #[true, true, true, true, true, true, true, true, true, true, true, true, true, true, true, false] rfl rfl (by kernel_rfl) (by decide) (fun K hK => ?_)
  refine ev_store_step HS 2 rfl (by rfl) 37 (.tmp 4) (.tmp 32) rfl rfl rfl (stL s0) rfl (len32 hs0) (by rw [stL_length hs0, List.size_toArray, stL_length hs]) (stL_one _) ?_
  clear HS
  intro w HS
  refine hK.out _ _ ⟨_, HS⟩ (fun hHeld => ?_)
  clear hK K
  refine pure_ (i := 15) (N := some 5) (v := ?_) (a' := ?_) #[true, true, true, true, true, true, true, true, true, true, true, true, true, true, true, true] rfl rfl (by kernel_rfl) (fun _ _ _ h => h) (Or.inl ⟨by rfl, ?_⟩) ?_ ?_
  rotate_left
  · intro w'
    go_simp
    with_reducible rfl
  rotate_left
  · (try simp only [Act.put, List.setIfInBounds_toArray, List.set_cons_zero, List.set_cons_succ, i64_w, i32_w])
    rfl
  refine done_ (by kernel_rfl) ?_
  clear hHeld
  replace HS : Sat W0 w (blk g4 37 (stL s0).toArray :: blk g2 37 (stL z0).toArray :: MB g X.s vc (.slice A n c) (.slice Ab nb cq) (.slice (some ad) X.n cs) vt win X.left :: BQ (.slice A0 b0.length c0) b0 :: row IW 2 (.slice A n c) X.mem :: que 82 70 (.slice (some ad) X.n cs) ((stL s0 ++ [Value.slice A0 b0.length c0]) :: cl) :: BQ (.slice Ab nb cq) X.buf :: L) := by
    have h1 : Sat W0 w (que 82 70 (.slice (some ad) X.n cs) ((stL s0 ++ [Value.slice A0 b0.length c0]) :: cl) :: MB g X.s vc (.slice A n c) (.slice Ab nb cq) (.slice (some ad) X.n cs) vt win X.left :: blk g4 37 (stL s0).toArray :: blk g2 37 (stL z0).toArray :: BQ (.slice A0 b0.length c0) b0 :: BQ (.slice Ab nb cq) X.buf :: row IW 2 (.slice A n c) X.mem :: L) := HS.swap
    have h2 : Sat W0 w (MB g X.s vc (.slice A n c) (.slice Ab nb cq) (.slice (some ad) X.n cs) vt win X.left :: blk g4 37 (stL s0).toArray :: blk g2 37 (stL z0).toArray :: BQ (.slice A0 b0.length c0) b0 :: BQ (.slice Ab nb cq) X.buf :: row IW 2 (.slice A n c) X.mem :: que 82 70 (.slice (some ad) X.n cs) ((stL s0 ++ [Value.slice A0 b0.length c0]) :: cl) :: L) := h1.insert 6 (by simp)
    have h3 : Sat W0 w (blk g4 37 (stL s0).toArray :: blk g2 37 (stL z0).toArray :: MB g X.s vc (.slice A n c) (.slice Ab nb cq) (.slice (some ad) X.n cs) vt win X.left :: BQ (.slice A0 b0.length c0) b0 :: BQ (.slice Ab nb cq) X.buf :: row IW 2 (.slice A n c) X.mem :: que 82 70 (.slice (some ad) X.n cs) ((stL s0 ++ [Value.slice A0 b0.length c0]) :: cl) :: L) := h2.insert 2 (by simp)
    have h4 := h3.front 4 rfl
    exact h4.insert 6 (by simp)
  go_upto_region 6 with (fail)
  have HM := mcellT (w := w) hs HS 2 rfl
  have c70 : w.cell? ⟨g, 70, none⟩ = some (.slice A n c) := mcellT hs HS 2 rfl 1
  clear HM
  go_upto_region 7 with (go_at_call 30; refine (clonew_calls 4 rfl hml HS).mono ?_; rintro e w_ ⟨v, rfl, HS_⟩; clear HS c70; have HS := HS_; clear HS_; obtain ⟨Am, cm, rfl⟩ := HS.slice 0 rfl)
  obtain ⟨lm, hlm⟩ : ∃ lm, X.mem.length = lm := ⟨_, rfl⟩
  rw [hlm] at HS ⊢
  have HLM := Aside0.mk hlm
  clear hlm
  go_wp2
  go_loopg [47] (b0.length + 1) (fun kq v47 w' => ∃ (i : Nat), v47 = .int .i64 (i : Int) ∧ Aside0 (i ≤ b0.length ∧ b0.length + 1 ≤ kq + i) ∧ Aside0 (Sat W0 w' (row IW 2 (.slice Am lm cm) (wrs X.mem (b0.take i)) :: blk g4 37 (stL s0).toArray :: blk g2 37 (stL z0).toArray :: MB g X.s vc (.slice A n c) (.slice Ab nb cq) (.slice (some ad) X.n cs) vt win X.left :: BQ (.slice A0 b0.length c0) b0 :: row IW 2 (.slice A n c) X.mem :: que 82 70 (.slice (some ad) X.n cs) ((stL s0 ++ [Value.slice A0 b0.length c0]) :: cl) :: BQ (.slice Ab nb cq) X.buf :: L)))
  case atStart => exact ⟨0, rfl, ⟨by omega, by omega⟩, ⟨HS⟩⟩
  case round =>
    clear HS
    obtain ⟨i, rfl, HJ, HS'⟩ := hrel
    have HS := HS'.out
    clear HS'
    cases gk with
    | zero => have := HJ.out; omega
    | succ k1 =>
      by_cases hk : i < b0.length
      · obtain ⟨I, hI_⟩ : ∃ I : Int, (i : Int) = I := ⟨_, rfl⟩
        have p1 : 0 ≤ I := by omega
        have q1 : I < (b0.length : Int) := by omega
        have c1_ : decide (I < (b0.length : Int)) = true := decide_eq_true q1
        obtain ⟨ad, x, rfl, hx, _, hxc⟩ := HS.queGet 4 rfl I p1 q1
        rw [List.getElem?_map, show I.toNat = i by omega, List.getElem?_eq_getElem hk] at hx
        obtain ⟨y, hy⟩ : ∃ y, y = b0[i] := ⟨_, rfl⟩
        have HT := Aside0.mk (show wrs X.mem (b0.take (i + 1)) = (wWr (wrs X.mem (b0.take i)) y.1 y.2).1 by rw [List.take_succ_eq_append_getElem hk, wrs_append, hy]; rfl)
        rw [← hy] at hx
        obtain rfl := Option.some.inj hx
        obtain ⟨y1, y2⟩ := y
        have x0 : wr.cell? (ad.add (I.toNat * 2)) = some (.int .i64 y1) := hxc 0 _ rfl
        have x1 : wr.cell? ⟨(ad.add (I.toNat * 2)).block, (ad.add (I.toNat * 2)).off + 1, none⟩ = some (.int .i64 y2) := by rw [← add_field _ _ 1 (by omega)]; exact hxc 1 _ rfl
        have r1 := eq_true p1
        have r2 := eq_true q1
        rw [hI_]
        have HII := Aside0.mk hI_
        have hwi : wrap64 (I + 1) = I + 1 := w64 _ (by omega) (by omega)
        clear hx hxc hy hI_ hk
        go_upto_region 10 with (first | ((with_reducible refine gate_dst (N := 8) rfl ?_); go_must (refine ev_box HS rfl (N := 8) rfl (cs := #[.int .i64 0, .int .i64 0]) (t := 85) ?hrun ?_); (case hrun => first | (go_simp; done) | (go_simp; rfl)); clear HS; intro gw w HS) | ((with_reducible refine gate_store (t := 85) (p := 8) rfl ?_); go_must (refine ev_store HS 0 rfl rfl 85 (.tmp 8) (.tmp 50) rfl rfl rfl [.int .i64 y1, .int .i64 y2] ?hx (by kernel_rfl) (by rfl) ?h1 ?_); (case hx => first | rfl | (go_simp; done)); (case h1 => simp [Value.oneCell']); clear HS; intro w HS))
        have cw := HS.cell 0 rfl
        go_upto_region 11 with (go_at_call 31; refine (write_calls (m := wrs X.mem (b0.take i)) y1 y2 1 rfl HS).mono ?_; rintro e w_ ⟨rfl, HS_⟩; clear HS; have HS := HS_; clear HS_)
        clear cw
        go_wp2
        go_roundg k1
        case measure => omega
        case rel =>
          refine ⟨i + 1, by rw [← HII.out]; rfl, ⟨by have := HJ.out; have := HII.out; omega, by have := HJ.out; omega⟩, ⟨?_⟩⟩
          rw [HT.out]
          exact HS.tail
      · have hkk : i = b0.length := by have := HJ.out.1; omega
        subst hkk
        have hkb : decide (b0.length < b0.length) = false := decide_eq_false (Nat.lt_irrefl _)
        rw [List.take_length] at HS
        go_wp2_with (first | ((with_reducible refine gate_load (ty := 37) (p := 4) rfl ?_); go_must (refine ev_load HS 1 rfl rfl 37 (.tmp 4) rfl (N := 58) rfl rfl _ Try.underlying37 rfl (size32 hs0) ?_)) | ((with_reducible refine gate_store (t := 37) (p := 2) rfl ?_); go_must (refine ev_store HS 2 rfl rfl 37 (.tmp 2) (.tmp 58) rfl rfl rfl (stL s0) rfl (len32 hs0) (by rw [stL_length hs0]; rfl) (stL_one _) ?_); clear HS; intro w HS))
        have k1 : Sat W0 w (row IW 2 (.slice Am lm cm) (wrs X.mem b0) :: MB g X.s vc (.slice A n c) (.slice Ab nb cq) (.slice (some ad) X.n cs) vt win X.left :: BQ (.slice A0 b0.length c0) b0 :: row IW 2 (.slice A n c) X.mem :: que 82 70 (.slice (some ad) X.n cs) ((stL s0 ++ [Value.slice A0 b0.length c0]) :: cl) :: BQ (.slice Ab nb cq) X.buf :: L) := (HS.erase 1).erase 1
        have k2 : Sat W0 w (SVD (.slice (some ad) X.n cs) (some (s0, b0)) X.n :: row IW 2 (.slice Am lm cm) (wrs X.mem b0) :: MB g X.s vc (.slice A n c) (.slice Ab nb cq) (.slice (some ad) X.n cs) vt win X.left :: row IW 2 (.slice A n c) X.mem :: BQ (.slice Ab nb cq) X.buf :: L) := Sat.closeEx ⟨(.slice A0 b0.length c0, cl), HNN.out, hs0⟩ (Sat.join ((k1.front 4 rfl).front 3 rfl).swap)
        rw [← hp] at k2
        have k3 : Sat W0 w (MB g X.s vc (.slice A n c) (.slice Ab nb cq) (.slice (some ad) X.n cs) vt win X.left :: BQ (.slice Ab nb cq) X.buf :: row IW 2 (.slice A n c) X.mem :: SVD (.slice (some ad) X.n cs) X.saved X.n :: row IW 2 (.slice Am lm cm) (wrs X.mem b0) :: L) := (((k2.front 4 rfl).front 3 rfl).front 4 rfl).insert 2 (by simp)
        have k4 := (mClose hs k3).swap
        exact bodyPost_ret (v := .tuple #[.agg (stL s0).toArray, .slice Am lm cm]) (results_ct (p := 2) (u := 3) (ty := 37) rfl _ w g2 _ _ _ _ rfl (HS.blk 2 rfl) Try.underlying37 rfl (size32 hs0)) rfl ⟨_, rfl, k4⟩

theorem known_calls {X : SM} (hml : X.mem.length ≤ 1048576) (hbl : X.buf.length ≤ 1000000) (hkl : (kwnB X).length ≤ 1000000) (HS : Sat W0 w (mch g A n c vc vt win X :: L)) :
    Calls Try.prog 20 #[.pointer (some ⟨g, 0, none⟩)] w fun e w' => ∃ v, e = .returned (.tuple #[.agg (stL (kwnS X)).toArray, v]) ∧ Sat W0 w' (row IW 2 v (kwnM X) :: mch g A n c vc vt win X :: L) := by
  unfold kwnM kwnS
  unfold kwnB at hkl ⊢
  cases hp : X.saved with
  | none => exact known_none hml hbl hp HS
  | some p => rw [hp] at hkl; exact known_some hml hbl hp hkl HS

end
end Go.Proofs.Ytiafbpbbhgpjkaa.B
