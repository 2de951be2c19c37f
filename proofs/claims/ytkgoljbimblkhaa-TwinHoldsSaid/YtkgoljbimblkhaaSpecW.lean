/- The machine that runs ahead: a word as it was, and the wrong way. -/
import Derived.Test.YtkgoljbimblkhaaSpecA
namespace Go.Proofs.Ytkgoljbimblkhaa.B
open Go.RowKit Go.Proofs.Ytkgoljbimblkhaa.Mine Go.Proofs.Ytkgoljbimblkhaa.Sep Go.Proofs.YtkgoljbimblkhaaW.PrintWords Go.Proofs.YtkgoljbimblkhaaW.PrintLast Go.Proofs.YtkgoljbimblkhaaW.PrintMore
set_option linter.unusedVariables false
set_option linter.unusedSimpArgs false
def aheadP (code : List S56) (X : SM) : St × List (Int × Int) := ((steppedF false code X).s, (steppedF false code X).buf)
def staleF (code : List S56) (win : Int) (X : SM) : SM × List S66 :=
  if (aheadP code X).1.ended = true then honestF code X
  else (steppedF true code (guessF win (aheadP code X) X), stepOut true code (guessF win (aheadP code X) X))
section
variable {g : Nat} {A : Option Addr} {n c : Nat} {win : Int} {W0 w : World} {L : List Chunk} {Ac At : Option Addr} {cc nt ct : Nat} {code : List S56}
theorem ptc {s : St} {v : Value} (hs : s.regs.length = 64) (HS : Sat W0 w L) (i : Nat) {g3 : Nat} (hi : L[i]? = some (blk g3 94 (stL s ++ [v]).toArray)) (j : Nat) (hj : j < 69) : w.cell? ⟨g3, j, none⟩ = (stL s)[j]? := by
  rw [HS.cell i hi j, List.getElem?_toArray, List.getElem?_append_left (by rw [stL_length hs]; exact hj)]
theorem mchSet {X : SM} {vc vt : Value} {s' : St} (HS : Sat W0 w (mch g A n c vc vt win X :: L)) (j : Nat) (v : Value) (hj : j < 69) (hs' : s'.regs.length = 64) (he : stL s' = (stL X.s).set j v) : Sat W0 (w.setCell ⟨g, j, none⟩ v) (mch g A n c vc vt win { X with s := s' } :: L) := by
  obtain ⟨vb, vs, hs, HS⟩ := mOpen HS
  have h := HS.store 0 rfl j v
  refine mClose (X := { X with s := s' }) hs' (vb := vb) (vs := vs) ?_
  unfold MB at h ⊢
  dsimp only
  rw [mcL_set hs j v hj he]
  rw [List.setIfInBounds_toArray] at h
  exact h
theorem guess_keeps (p : St × List (Int × Int)) (X : SM) : (guessF win p X).s = X.s ∧ (guessF win p X).buf = X.buf ∧ (guessF win p X).mem = X.mem ∧ (guessF win p X).n = X.n + 1 := ⟨rfl, rfl, rfl, rfl⟩

set_option maxRecDepth 100000 in
set_option maxHeartbeats 2000000 in
theorem stale_end {X : SM} (hC : ∀ w, Sat W0 w L → Kd.C k56 w Ac code.length code) (hfit : ∀ i ∈ code, Fit i) (hn : X.n ≤ 800000) (hb : X.buf.length ≤ 800000) (h1 : (aheadP code X).1.ended = true) (HS : Sat W0 w (mch g A n c (.slice Ac code.length cc) (.slice At nt ct) win X :: L)) :
    Calls Try.prog 33 #[.pointer (some ⟨g, 0, none⟩)] w fun e w' => ∃ v, e = .returned v ∧ Sat W0 w' (row k66 66 v (honestF code X).2 :: mch g A n c (.slice Ac code.length cc) (.slice At nt ct) win (honestF code X).1 :: L) := by
  have hsX := (mchC HS 0 rfl).1
  have hs1 : (aheadP code X).1.regs.length = 64 := stepF_regs (vF false) code X.s ⟨X.mem, X.buf⟩ hsX
  have hlen := stepF_len (vF false) code X.s ⟨X.mem, X.buf⟩
  have HA := Aside0.mk (show Calls Try.prog 40 #[.pointer (some ⟨g, 0, none⟩)] w (fun e w' => ∃ vb vo, e = .returned (.tuple #[.agg (stL (aheadP code X).1 ++ [vb]).toArray, vo]) ∧ Sat W0 w' (row k66 66 vo (stepOut false code X) :: BQ vb (aheadP code X).2 :: mch g A n c (.slice Ac code.length cc) (.slice At nt ct) win X :: L)) from ahead_calls hC hfit (show X.buf.length ≤ 900000 by omega) HS)
  go_enter Try.func33, Try.ntmps33
  go_upto_region 2 with (first | (go_at_call 40; refine HA.out.mono ?_; rintro e w_ ⟨vp, vo, rfl, HS_⟩; clear HS HA; have HS := HS_; clear HS_; obtain ⟨Ao, co, rfl⟩ := HS.slice 0 rfl; obtain ⟨Ap, cp, rfl, _⟩ := HS.queSlice 1 rfl; obtain ⟨np, hnp⟩ : ∃ np, ((aheadP code X).2.map wc).length = np := ⟨_, rfl⟩; rw [hnp] at HS ⊢; clear hnp) | ((with_reducible refine gate_dst (N := 3) rfl ?_); go_must (refine ev_box HS rfl (N := 3) rfl (cs := ptZ) (t := 94) ?hrun ?_); (case hrun => first | (go_simp; done) | (go_simp; rfl)); clear HS; intro g3 w HS) | ((with_reducible refine gate_store (t := 94) (p := 3) rfl ?_); go_must (refine ev_store HS 0 rfl rfl 94 (.tmp 3) (.tmp 8) rfl rfl rfl (stL (aheadP code X).1 ++ [.slice Ap np cp]) rfl (len_pt hs1) (by rw [List.length_append, stL_length hs1]; rfl) (by intro q hq; rcases List.mem_append.1 hq with h | h; exact stL_one _ q h; rw [List.mem_singleton.1 h]; rfl) ?_); clear HS; intro w HS))
  have c65 := (ptc hs1 HS 0 rfl 65 (by decide)).trans (stL_ended hs1)
  rw [h1] at c65
  replace HS := HS.tail.tail.tail
  go_wp2_with (go_at_call 30; refine (honest_calls hC hfit (show X.n ≤ 900000 by omega) (show X.buf.length ≤ 900000 by omega) HS).mono ?_; rintro e w_ ⟨v, rfl, HS_⟩; clear HS; have HS := HS_; clear HS_)
  go_ret
  exact ⟨_, rfl, HS⟩

set_option maxRecDepth 100000 in
set_option maxHeartbeats 2000000 in
theorem stale_on {X : SM} (hC : ∀ w, Sat W0 w L → Kd.C k56 w Ac code.length code) (hfit : ∀ i ∈ code, Fit i) (hn : X.n ≤ 800000) (hb : X.buf.length ≤ 800000) (h1 : (aheadP code X).1.ended = false) (HS : Sat W0 w (mch g A n c (.slice Ac code.length cc) (.slice At nt ct) win X :: L)) :
    Calls Try.prog 33 #[.pointer (some ⟨g, 0, none⟩)] w fun e w' => ∃ v, e = .returned v ∧ Sat W0 w' (row k66 66 v (stepOut true code (guessF win (aheadP code X) X)) :: mch g A n c (.slice Ac code.length cc) (.slice At nt ct) win (steppedF true code (guessF win (aheadP code X) X)) :: L) := by
  obtain ⟨Y, hY⟩ : ∃ Y, Y = guessF win (aheadP code X) X := ⟨_, rfl⟩
  rw [← hY]
  have hYb : Y.buf.length ≤ 800000 := by rw [hY]; exact hb
  have HY := Aside0.mk hY
  clear hY
  have hsX := (mchC HS 0 rfl).1
  have hs1 : (aheadP code X).1.regs.length = 64 := stepF_regs (vF false) code X.s ⟨X.mem, X.buf⟩ hsX
  have hlen := stepF_len (vF false) code X.s ⟨X.mem, X.buf⟩
  have HA := Aside0.mk (show Calls Try.prog 40 #[.pointer (some ⟨g, 0, none⟩)] w (fun e w' => ∃ vb vo, e = .returned (.tuple #[.agg (stL (aheadP code X).1 ++ [vb]).toArray, vo]) ∧ Sat W0 w' (row k66 66 vo (stepOut false code X) :: BQ vb (aheadP code X).2 :: mch g A n c (.slice Ac code.length cc) (.slice At nt ct) win X :: L)) from ahead_calls hC hfit (show X.buf.length ≤ 900000 by omega) HS)
  clear hlen
  go_enter Try.func33, Try.ntmps33
  go_upto_region 2 with (first | (go_at_call 40; refine HA.out.mono ?_; rintro e w_ ⟨vp, vo, rfl, HS_⟩; clear HS HA; have HS := HS_; clear HS_; obtain ⟨Ao, co, rfl⟩ := HS.slice 0 rfl; obtain ⟨Ap, cp, rfl, _⟩ := HS.queSlice 1 rfl; obtain ⟨np, hnp⟩ : ∃ np, ((aheadP code X).2.map wc).length = np := ⟨_, rfl⟩; rw [hnp] at HS ⊢; clear hnp) | ((with_reducible refine gate_dst (N := 3) rfl ?_); go_must (refine ev_box HS rfl (N := 3) rfl (cs := ptZ) (t := 94) ?hrun ?_); (case hrun => first | (go_simp; done) | (go_simp; rfl)); clear HS; intro g3 w HS) | ((with_reducible refine gate_store (t := 94) (p := 3) rfl ?_); go_must (refine ev_store HS 0 rfl rfl 94 (.tmp 3) (.tmp 8) rfl rfl rfl (stL (aheadP code X).1 ++ [.slice Ap np cp]) rfl (len_pt hs1) (by rw [List.length_append, stL_length hs1]; rfl) (by intro q hq; rcases List.mem_append.1 hq with h | h; exact stL_one _ q h; rw [List.mem_singleton.1 h]; rfl) ?_); clear HS; intro w HS))
  have c65 := (ptc hs1 HS 0 rfl 65 (by decide)).trans (stL_ended hs1)
  rw [h1] at c65
  go_upto_region 5 with (first | ((with_reducible refine gate_load (ty := 94) (p := 3) rfl ?_); go_must (refine ev_load HS 0 rfl rfl 94 (.tmp 3) rfl (N := 16) rfl rfl _ Try.underlying94 rfl (size_pt hs1) ?_)) | (go_at_call 41; refine (guess_calls (b1 := (aheadP code X).2) hs1 rfl rfl (show X.n ≤ 900000 by omega) (HS.tail.tail)).mono ?_; rintro e w_ ⟨rfl, HS_⟩; clear HS c65; have HS := HS_; clear HS_))
  replace HS : Sat W0 w_ (mch g A n c (.slice Ac code.length cc) (.slice At nt ct) win Y :: L) := by rw [HY.out]; exact HS
  obtain ⟨vb, vs, hs, HS⟩ := mOpen HS
  refine start_ (n := 12) (S := fun w' => ∃ L', Sat W0 w' (MB g Y.s (.slice Ac code.length cc) (.slice A n c) vb vs (.slice At nt ct) win Y.left :: L')) (ds := [10]) #[false, false, false, false, false, false, false, false, false, false, false, false] (by kernel_rfl) rfl rfl ⟨_, HS.drew⟩ (fun hHeld => ?_)
  replace HS := HS.drew
  generalize World.drew w_ = w at HS hHeld ⊢
  refine pure_ (i := 0) (N := some 18) (v := ?_) (a' := ?_) #[true, false, false, false, false, false, false, false, false, false, false, false] rfl rfl (by kernel_rfl) (fun _ _ _ h => h) (Or.inl ⟨by rfl, ?_⟩) ?_ ?_
  rotate_left
  · intro w'
    go_simp
    with_reducible rfl
  rotate_left
  · (try simp only [Act.put, List.setIfInBounds_toArray, List.set_cons_zero, List.set_cons_succ, i64_w, i32_w])
    rfl
  refine pure_ (i := 1) (N := some 19) (v := ?_) (a' := ?_) #[true, true, false, false, false, false, false, false, false, false, false, false] rfl rfl (by kernel_rfl) (fun _ _ _ h => h) (Or.inl ⟨by rfl, ?_⟩) ?_ ?_
  rotate_left
  · intro w'
    go_simp
    with_reducible rfl
  rotate_left
  · (try simp only [Act.put, List.setIfInBounds_toArray, List.set_cons_zero, List.set_cons_succ, i64_w, i32_w])
    rfl
  refine pure_ (i := 2) (N := some 20) (v := ?_) (a' := ?_) #[true, true, true, false, false, false, false, false, false, false, false, false] rfl rfl (by kernel_rfl) (fun _ _ _ h => h) (Or.inl ⟨by rfl, ?_⟩) ?_ ?_
  rotate_left
  · intro w'
    go_simp
    with_reducible rfl
  rotate_left
  · (try simp only [Act.put, List.setIfInBounds_toArray, List.set_cons_zero, List.set_cons_succ, i64_w, i32_w])
    rfl
  refine pure_ (i := 3) (N := some 21) (v := ?_) (a' := ?_) #[true, true, true, true, false, false, false, false, false, false, false, false] rfl rfl (by kernel_rfl) (fun _ _ _ h => h) (Or.inl ⟨by rfl, ?_⟩) ?_ ?_
  rotate_left
  · intro w'
    go_simp
    with_reducible rfl
  rotate_left
  · (try simp only [Act.put, List.setIfInBounds_toArray, List.set_cons_zero, List.set_cons_succ, i64_w, i32_w])
    rfl
  refine pure_ (i := 4) (N := some 22) (v := ?_) (a' := ?_) #[true, true, true, true, true, false, false, false, false, false, false, false] rfl rfl (by kernel_rfl) (fun _ _ _ h => h) (Or.inl ⟨by rfl, ?_⟩) ?_ ?_
  rotate_left
  · intro w'
    go_simp
    with_reducible rfl
  rotate_left
  · (try simp only [Act.put, List.setIfInBounds_toArray, List.set_cons_zero, List.set_cons_succ, i64_w, i32_w])
    rfl
  refine pure_ (i := 5) (N := some 23) (v := ?_) (a' := ?_) #[true, true, true, true, true, true, false, false, false, false, false, false] rfl rfl (by kernel_rfl) (fun _ _ _ h => h) (Or.inl ⟨by rfl, ?_⟩) ?_ ?_
  rotate_left
  · intro w'
    go_simp
    with_reducible rfl
  rotate_left
  · (try simp only [Act.put, List.setIfInBounds_toArray, List.set_cons_zero, List.set_cons_succ, i64_w, i32_w])
    rfl
  refine take_ (i := 6) (N := some 24) (v := ?_) (a' := ?_) #[true, true, true, true, true, true, true, false, false, false, false, false] rfl rfl (by kernel_rfl) (fun _ _ _ h => h) (Or.inl ⟨by rfl, ?_⟩) hHeld ?_ ?_
  rotate_left
  · rintro w' hS
    obtain ⟨L', hS⟩ := hS
    have c69 : w'.cell? ⟨g, 69, none⟩ = some (.slice Ac code.length cc) := mcellT hs hS 0 rfl 0
    go_simp
    with_reducible rfl
  rotate_left
  · (try simp only [Act.put, List.setIfInBounds_toArray, List.set_cons_zero, List.set_cons_succ, i64_w, i32_w])
    rfl
  refine pure_ (i := 7) (N := some 25) (v := ?_) (a' := ?_) #[true, true, true, true, true, true, true, true, false, false, false, false] rfl rfl (by kernel_rfl) (fun _ _ _ h => h) (Or.inl ⟨by rfl, ?_⟩) ?_ ?_
  rotate_left
  · intro w'
    go_simp
    with_reducible rfl
  rotate_left
  · (try simp only [Act.put, List.setIfInBounds_toArray, List.set_cons_zero, List.set_cons_succ, i64_w, i32_w])
    rfl
  refine pure_ (i := 8) (N := some 26) (v := ?_) (a' := ?_) #[true, true, true, true, true, true, true, true, true, false, false, false] rfl rfl (by kernel_rfl) (fun _ _ _ h => h) (Or.inl ⟨by rfl, ?_⟩) ?_ ?_
  rotate_left
  · intro w'
    go_simp
    with_reducible rfl
  rotate_left
  · (try simp only [Act.put, List.setIfInBounds_toArray, List.set_cons_zero, List.set_cons_succ, i64_w, i32_w])
    rfl
  refine pure_ (i := 9) (N := some 27) (v := ?_) (a' := ?_) #[true, true, true, true, true, true, true, true, true, true, false, false] rfl rfl (by kernel_rfl) (fun _ _ _ h => h) (Or.inl ⟨by rfl, ?_⟩) ?_ ?_
  rotate_left
  · intro w'
    go_simp
    with_reducible rfl
  rotate_left
  · (try simp only [Act.put, List.setIfInBounds_toArray, List.set_cons_zero, List.set_cons_succ, i64_w, i32_w])
    rfl
  refine last_ (i := 10) (N := some 28) #[true, true, true, true, true, true, true, true, true, true, true, false] rfl rfl (by kernel_rfl) (by decide) (fun K hK => ?_)
  refine goes_ Try.func19 (by kernel_rfl) rfl #[.pointer (some ⟨g, 0, none⟩), .slice Ac code.length cc, .iface 96 (.agg #[.pointer (some ⟨g, 0, none⟩), .bool true])] (by rfl) rfl rfl (by (try simp only [List.map_toArray, List.map_cons, List.map_nil]); first | done | rfl) ?_
  have HStep := step_calls (c := cc) (sMem g A n c (.slice Ac code.length cc) vs (.slice At nt ct) win Y.left true) (L := SVD vs Y.saved Y.n :: L) (fun w h => hC w h.tail) hfit (show Y.buf.length ≤ 1000000 by omega) hs (m := ⟨Y.mem, Y.buf⟩) (vClose (m := ⟨Y.mem, Y.buf⟩) hs HS)
  refine HStep.mono ?_
  clear HS HStep
  rintro e w ⟨v, rfl, HS⟩
  replace HS := stepped (X := Y) (k := true) (code := code) rfl (stepF_regs _ code Y.s _ hs) HS
  obtain ⟨Av, cv, rfl⟩ := HS.slice 0 rfl
  refine ⟨_, rfl, ?_⟩
  refine hK.out _ _ ?_
  clear hK K
  refine norm_ (a' := ?_) ?_ ?_
  rotate_left
  · show Act.put _ _ _ = _
    (try simp only [Act.put, List.setIfInBounds_toArray, List.set_cons_zero, List.set_cons_succ, i64_w, i32_w])
    rfl
  refine pure_ (i := 11) (N := some 2) (v := ?_) (a' := ?_) #[true, true, true, true, true, true, true, true, true, true, true, true] rfl rfl (by kernel_rfl) (fun _ _ _ h => h) (Or.inl ⟨by rfl, ?_⟩) ?_ ?_
  rotate_left
  · intro w'
    go_simp
    with_reducible rfl
  rotate_left
  · (try simp only [Act.put, List.setIfInBounds_toArray, List.set_cons_zero, List.set_cons_succ, i64_w, i32_w])
    rfl
  refine done_ (by kernel_rfl) ?_
  clear hHeld
  go_wp2
  go_ret
  exact ⟨_, rfl, HS⟩

theorem stale_calls {X : SM} (hC : ∀ w, Sat W0 w L → Kd.C k56 w Ac code.length code) (hfit : ∀ i ∈ code, Fit i) (hn : X.n ≤ 800000) (hb : X.buf.length ≤ 800000) (HS : Sat W0 w (mch g A n c (.slice Ac code.length cc) (.slice At nt ct) win X :: L)) :
    Calls Try.prog 33 #[.pointer (some ⟨g, 0, none⟩)] w fun e w' => ∃ v, e = .returned v ∧ Sat W0 w' (row k66 66 v (staleF code win X).2 :: mch g A n c (.slice Ac code.length cc) (.slice At nt ct) win (staleF code win X).1 :: L) := by
  unfold staleF
  by_cases h1 : (aheadP code X).1.ended = true
  · rw [if_pos h1]; exact stale_end hC hfit hn hb h1 HS
  · rw [if_neg h1]; exact stale_on hC hfit hn hb (by simpa using h1) HS

/-- Which place behind a Call. -/
def pickT (tq len : Int) : Int := (IntKind.u64.wrap tq).tmod len
theorem pick_facts (tq : Int) (nt : Nat) (h0 : 0 < nt) (hnt : nt ≤ 1000000) (Q : Int) (hQ : Q = pickT tq nt) : IntKind.u64.wrap (nt : Int) = (nt : Int) ∧ (IntKind.u64.wrap tq).tmod (nt : Int) = Q ∧ 0 ≤ Q ∧ Q < (nt : Int) ∧ wrap64 Q = Q := by
  have hu : 0 ≤ IntKind.u64.wrap tq := by simp [IntKind.wrap, IntKind.bits, IntKind.signed]; omega
  have hw : IntKind.u64.wrap (nt : Int) = (nt : Int) := by simp [IntKind.wrap, IntKind.bits, IntKind.signed]; omega
  unfold pickT at hQ
  have q0 : 0 ≤ Q := by rw [hQ]; exact Int.tmod_nonneg _ hu
  have q1 : Q < (nt : Int) := by rw [hQ]; exact Int.tmod_lt_of_pos _ (by omega)
  exact ⟨hw, hQ.symm, q0, q1, w64 _ (by omega) (by omega)⟩
def setPC (X : SM) (at_ : Int) : SM := { X with s := { { X.s with steps := wrap64 (X.s.steps + 1) } with pc := at_ } }
def wrongAt (sites : List Int) (i0 i5 tq : Int) (p : St) (X : SM) : Int := if i0 = 9 then rd sites (pickT tq sites.length) else if p.pc = wrap64 (X.s.pc + 1) then i5 else wrap64 (X.s.pc + 1)
def wrongF (code : List S56) (sites : List Int) (win i0 i5 tq : Int) (X : SM) : SM × List S66 :=
  if (aheadP code X).1.ended = true ∨ i0 = 9 ∧ sites = [] then honestF code X
  else (setPC (guessF win (aheadP code X) X) (wrongAt sites i0 i5 tq (aheadP code X).1 X), stepOut false code X)

set_option maxRecDepth 100000 in
set_option maxHeartbeats 2000000 in
theorem wrong_end {X : SM} {sites : List Int} {i0 i1 i2 i3 i4 i5 tq : Int} (hC : ∀ w, Sat W0 w L → Kd.C k56 w Ac code.length code) (hfit : ∀ i ∈ code, Fit i) (hn : X.n ≤ 800000) (hb : X.buf.length ≤ 800000)(hT : ∀ w, Sat W0 w L → Kd.C (Kd.int .i64) w At nt sites) (h1 : (aheadP code X).1.ended = true) (HS : Sat W0 w (mch g A n c (.slice Ac code.length cc) (.slice At nt ct) win X :: L)) :
    Calls Try.prog 32 #[.pointer (some ⟨g, 0, none⟩), .agg #[.int .i64 i0, .int .i64 i1, .int .i64 i2, .int .i64 i3, .int .i64 i4, .int .i64 i5], .int .i64 tq] w fun e w' => ∃ v, e = .returned v ∧ Sat W0 w' (row k66 66 v (honestF code X).2 :: mch g A n c (.slice Ac code.length cc) (.slice At nt ct) win (honestF code X).1 :: L) := by
  have hsX := (mchC HS 0 rfl).1
  have hs1 : (aheadP code X).1.regs.length = 64 := stepF_regs (vF false) code X.s ⟨X.mem, X.buf⟩ hsX
  have hlen := stepF_len (vF false) code X.s ⟨X.mem, X.buf⟩
  have HA := Aside0.mk (show Calls Try.prog 40 #[.pointer (some ⟨g, 0, none⟩)] w (fun e w' => ∃ vb vo, e = .returned (.tuple #[.agg (stL (aheadP code X).1 ++ [vb]).toArray, vo]) ∧ Sat W0 w' (row k66 66 vo (stepOut false code X) :: BQ vb (aheadP code X).2 :: mch g A n c (.slice Ac code.length cc) (.slice At nt ct) win X :: L)) from ahead_calls hC hfit (show X.buf.length ≤ 900000 by omega) HS)
  have c73_ := HS
  clear c73_
  go_enter Try.func32, Try.ntmps32
  go_upto_region 1 with ((with_reducible refine gate_dst (N := 4) rfl ?_); go_must (refine ev_box HS rfl (N := 4) rfl (cs := #[.int .i64 i0, .int .i64 i1, .int .i64 i2, .int .i64 i3, .int .i64 i4, .int .i64 i5]) (t := 56) ?hrun ?_); (case hrun => first | (go_simp; done) | (go_simp; rfl)); clear HS; intro gi w HS)
  replace HA := Aside0.mk (show Calls Try.prog 40 #[.pointer (some ⟨g, 0, none⟩)] w (fun e w' => ∃ vb vo, e = .returned (.tuple #[.agg (stL (aheadP code X).1 ++ [vb]).toArray, vo]) ∧ Sat W0 w' (row k66 66 vo (stepOut false code X) :: BQ vb (aheadP code X).2 :: mch g A n c (.slice Ac code.length cc) (.slice At nt ct) win X :: blk gi 56 #[.int .i64 i0, .int .i64 i1, .int .i64 i2, .int .i64 i3, .int .i64 i4, .int .i64 i5] :: L)) from ahead_calls (fun w h => hC w h.tail) hfit (show X.buf.length ≤ 900000 by omega) HS.swap)
  go_upto_region 2 with (first | (go_at_call 40; refine HA.out.mono ?_; rintro e w_ ⟨vp, vo, rfl, HS_⟩; clear HS HA; have HS := HS_; clear HS_; obtain ⟨Ao, co, rfl⟩ := HS.slice 0 rfl; obtain ⟨Ap, cp, rfl, _⟩ := HS.queSlice 1 rfl; obtain ⟨np, hnp⟩ : ∃ np, ((aheadP code X).2.map wc).length = np := ⟨_, rfl⟩; rw [hnp] at HS ⊢; clear hnp) | ((with_reducible refine gate_dst (N := 7) rfl ?_); go_must (refine ev_box HS rfl (N := 7) rfl (cs := ptZ) (t := 94) ?hrun ?_); (case hrun => first | (go_simp; done) | (go_simp; rfl)); clear HS; intro g3 w HS) | ((with_reducible refine gate_store (t := 94) (p := 7) rfl ?_); go_must (refine ev_store HS 0 rfl rfl 94 (.tmp 7) (.tmp 13) rfl rfl rfl (stL (aheadP code X).1 ++ [.slice Ap np cp]) rfl (len_pt hs1) (by rw [List.length_append, stL_length hs1]; rfl) (by intro q hq; rcases List.mem_append.1 hq with h | h; exact stL_one _ q h; rw [List.mem_singleton.1 h]; rfl) ?_); clear HS; intro w HS))
  have c65 := (ptc hs1 HS 0 rfl 65 (by decide)).trans (stL_ended hs1)
  have cp64 := (ptc hs1 HS 0 rfl 64 (by decide)).trans (stL_pc hs1)
  have ci := HS.cell 4 rfl
  have HM := mchC HS 3 rfl
  have c64 := (HM.2.1 64 (by decide)).trans (stL_pc HM.1)
  have c73 := HM.2.2.2.2.2.1
  have fs := HM.2.2.1
  clear HM
  rw [h1] at c65
  replace HS : Sat W0 w (mch g A n c (.slice Ac code.length cc) (.slice At nt ct) win X :: L) := (HS.tail.tail.tail).erase 1
  go_wp2_with (go_at_call 30; refine (honest_calls hC hfit (show X.n ≤ 900000 by omega) (show X.buf.length ≤ 900000 by omega) HS).mono ?_; rintro e w_ ⟨v, rfl, HS_⟩; clear HS; have HS := HS_; clear HS_)
  go_ret
  exact ⟨_, rfl, HS⟩

set_option maxRecDepth 100000 in
set_option maxHeartbeats 2000000 in
theorem wrong_none {X : SM} {sites : List Int} {i0 i1 i2 i3 i4 i5 tq : Int} (hC : ∀ w, Sat W0 w L → Kd.C k56 w Ac code.length code) (hfit : ∀ i ∈ code, Fit i) (hn : X.n ≤ 800000) (hb : X.buf.length ≤ 800000)(hT : ∀ w, Sat W0 w L → Kd.C (Kd.int .i64) w At nt sites) (h1 : (aheadP code X).1.ended = false) (h9 : i0 = 9) (h0 : nt = 0) (HS : Sat W0 w (mch g A n c (.slice Ac code.length cc) (.slice At nt ct) win X :: L)) :
    Calls Try.prog 32 #[.pointer (some ⟨g, 0, none⟩), .agg #[.int .i64 i0, .int .i64 i1, .int .i64 i2, .int .i64 i3, .int .i64 i4, .int .i64 i5], .int .i64 tq] w fun e w' => ∃ v, e = .returned v ∧ Sat W0 w' (row k66 66 v (honestF code X).2 :: mch g A n c (.slice Ac code.length cc) (.slice At nt ct) win (honestF code X).1 :: L) := by
  have hsX := (mchC HS 0 rfl).1
  have hs1 : (aheadP code X).1.regs.length = 64 := stepF_regs (vF false) code X.s ⟨X.mem, X.buf⟩ hsX
  have hlen := stepF_len (vF false) code X.s ⟨X.mem, X.buf⟩
  have HA := Aside0.mk (show Calls Try.prog 40 #[.pointer (some ⟨g, 0, none⟩)] w (fun e w' => ∃ vb vo, e = .returned (.tuple #[.agg (stL (aheadP code X).1 ++ [vb]).toArray, vo]) ∧ Sat W0 w' (row k66 66 vo (stepOut false code X) :: BQ vb (aheadP code X).2 :: mch g A n c (.slice Ac code.length cc) (.slice At nt ct) win X :: L)) from ahead_calls hC hfit (show X.buf.length ≤ 900000 by omega) HS)
  have c73_ := HS
  clear c73_
  go_enter Try.func32, Try.ntmps32
  go_upto_region 1 with ((with_reducible refine gate_dst (N := 4) rfl ?_); go_must (refine ev_box HS rfl (N := 4) rfl (cs := #[.int .i64 i0, .int .i64 i1, .int .i64 i2, .int .i64 i3, .int .i64 i4, .int .i64 i5]) (t := 56) ?hrun ?_); (case hrun => first | (go_simp; done) | (go_simp; rfl)); clear HS; intro gi w HS)
  replace HA := Aside0.mk (show Calls Try.prog 40 #[.pointer (some ⟨g, 0, none⟩)] w (fun e w' => ∃ vb vo, e = .returned (.tuple #[.agg (stL (aheadP code X).1 ++ [vb]).toArray, vo]) ∧ Sat W0 w' (row k66 66 vo (stepOut false code X) :: BQ vb (aheadP code X).2 :: mch g A n c (.slice Ac code.length cc) (.slice At nt ct) win X :: blk gi 56 #[.int .i64 i0, .int .i64 i1, .int .i64 i2, .int .i64 i3, .int .i64 i4, .int .i64 i5] :: L)) from ahead_calls (fun w h => hC w h.tail) hfit (show X.buf.length ≤ 900000 by omega) HS.swap)
  go_upto_region 2 with (first | (go_at_call 40; refine HA.out.mono ?_; rintro e w_ ⟨vp, vo, rfl, HS_⟩; clear HS HA; have HS := HS_; clear HS_; obtain ⟨Ao, co, rfl⟩ := HS.slice 0 rfl; obtain ⟨Ap, cp, rfl, _⟩ := HS.queSlice 1 rfl; obtain ⟨np, hnp⟩ : ∃ np, ((aheadP code X).2.map wc).length = np := ⟨_, rfl⟩; rw [hnp] at HS ⊢; clear hnp) | ((with_reducible refine gate_dst (N := 7) rfl ?_); go_must (refine ev_box HS rfl (N := 7) rfl (cs := ptZ) (t := 94) ?hrun ?_); (case hrun => first | (go_simp; done) | (go_simp; rfl)); clear HS; intro g3 w HS) | ((with_reducible refine gate_store (t := 94) (p := 7) rfl ?_); go_must (refine ev_store HS 0 rfl rfl 94 (.tmp 7) (.tmp 13) rfl rfl rfl (stL (aheadP code X).1 ++ [.slice Ap np cp]) rfl (len_pt hs1) (by rw [List.length_append, stL_length hs1]; rfl) (by intro q hq; rcases List.mem_append.1 hq with h | h; exact stL_one _ q h; rw [List.mem_singleton.1 h]; rfl) ?_); clear HS; intro w HS))
  have c65 := (ptc hs1 HS 0 rfl 65 (by decide)).trans (stL_ended hs1)
  have cp64 := (ptc hs1 HS 0 rfl 64 (by decide)).trans (stL_pc hs1)
  have ci := HS.cell 4 rfl
  have HM := mchC HS 3 rfl
  have c64 := (HM.2.1 64 (by decide)).trans (stL_pc HM.1)
  have c73 := HM.2.2.2.2.2.1
  have fs := HM.2.2.1
  clear HM
  rw [h1] at c65
  subst h9
  subst h0
  replace HS : Sat W0 w (mch g A n c (.slice Ac code.length cc) (.slice At 0 ct) win X :: L) := (HS.tail.tail.tail).erase 1
  go_wp2_with (go_at_call 30; refine (honest_calls hC hfit (show X.n ≤ 900000 by omega) (show X.buf.length ≤ 900000 by omega) HS).mono ?_; rintro e w_ ⟨v, rfl, HS_⟩; clear HS; have HS := HS_; clear HS_)
  go_ret
  exact ⟨_, rfl, HS⟩

set_option maxRecDepth 100000 in
set_option maxHeartbeats 2000000 in
theorem wrong_ret {X : SM} {sites : List Int} {i0 i1 i2 i3 i4 i5 tq : Int} (hC : ∀ w, Sat W0 w L → Kd.C k56 w Ac code.length code) (hfit : ∀ i ∈ code, Fit i) (hn : X.n ≤ 800000) (hb : X.buf.length ≤ 800000)(hT : ∀ w, Sat W0 w L → Kd.C (Kd.int .i64) w At nt sites) (h1 : (aheadP code X).1.ended = false) (h9 : i0 = 9) (h0 : 0 < nt) (hnt : nt ≤ 1000000) (Q : Int) (hQ : Q = pickT tq nt) (HS : Sat W0 w (mch g A n c (.slice Ac code.length cc) (.slice At nt ct) win X :: L)) :
    Calls Try.prog 32 #[.pointer (some ⟨g, 0, none⟩), .agg #[.int .i64 i0, .int .i64 i1, .int .i64 i2, .int .i64 i3, .int .i64 i4, .int .i64 i5], .int .i64 tq] w fun e w' => ∃ v, e = .returned v ∧ Sat W0 w' (row k66 66 v (stepOut false code X) :: mch g A n c (.slice Ac code.length cc) (.slice At nt ct) win (setPC (guessF win (aheadP code X) X) (rd sites Q)) :: L) := by
  have hsX := (mchC HS 0 rfl).1
  have hs1 : (aheadP code X).1.regs.length = 64 := stepF_regs (vF false) code X.s ⟨X.mem, X.buf⟩ hsX
  have hlen := stepF_len (vF false) code X.s ⟨X.mem, X.buf⟩
  have HA := Aside0.mk (show Calls Try.prog 40 #[.pointer (some ⟨g, 0, none⟩)] w (fun e w' => ∃ vb vo, e = .returned (.tuple #[.agg (stL (aheadP code X).1 ++ [vb]).toArray, vo]) ∧ Sat W0 w' (row k66 66 vo (stepOut false code X) :: BQ vb (aheadP code X).2 :: mch g A n c (.slice Ac code.length cc) (.slice At nt ct) win X :: L)) from ahead_calls hC hfit (show X.buf.length ≤ 900000 by omega) HS)
  have c73_ := HS
  clear c73_
  go_enter Try.func32, Try.ntmps32
  go_upto_region 1 with ((with_reducible refine gate_dst (N := 4) rfl ?_); go_must (refine ev_box HS rfl (N := 4) rfl (cs := #[.int .i64 i0, .int .i64 i1, .int .i64 i2, .int .i64 i3, .int .i64 i4, .int .i64 i5]) (t := 56) ?hrun ?_); (case hrun => first | (go_simp; done) | (go_simp; rfl)); clear HS; intro gi w HS)
  replace HA := Aside0.mk (show Calls Try.prog 40 #[.pointer (some ⟨g, 0, none⟩)] w (fun e w' => ∃ vb vo, e = .returned (.tuple #[.agg (stL (aheadP code X).1 ++ [vb]).toArray, vo]) ∧ Sat W0 w' (row k66 66 vo (stepOut false code X) :: BQ vb (aheadP code X).2 :: mch g A n c (.slice Ac code.length cc) (.slice At nt ct) win X :: blk gi 56 #[.int .i64 i0, .int .i64 i1, .int .i64 i2, .int .i64 i3, .int .i64 i4, .int .i64 i5] :: L)) from ahead_calls (fun w h => hC w h.tail) hfit (show X.buf.length ≤ 900000 by omega) HS.swap)
  go_upto_region 2 with (first | (go_at_call 40; refine HA.out.mono ?_; rintro e w_ ⟨vp, vo, rfl, HS_⟩; clear HS HA; have HS := HS_; clear HS_; obtain ⟨Ao, co, rfl⟩ := HS.slice 0 rfl; obtain ⟨Ap, cp, rfl, _⟩ := HS.queSlice 1 rfl; obtain ⟨np, hnp⟩ : ∃ np, ((aheadP code X).2.map wc).length = np := ⟨_, rfl⟩; rw [hnp] at HS ⊢; clear hnp) | ((with_reducible refine gate_dst (N := 7) rfl ?_); go_must (refine ev_box HS rfl (N := 7) rfl (cs := ptZ) (t := 94) ?hrun ?_); (case hrun => first | (go_simp; done) | (go_simp; rfl)); clear HS; intro g3 w HS) | ((with_reducible refine gate_store (t := 94) (p := 7) rfl ?_); go_must (refine ev_store HS 0 rfl rfl 94 (.tmp 7) (.tmp 13) rfl rfl rfl (stL (aheadP code X).1 ++ [.slice Ap np cp]) rfl (len_pt hs1) (by rw [List.length_append, stL_length hs1]; rfl) (by intro q hq; rcases List.mem_append.1 hq with h | h; exact stL_one _ q h; rw [List.mem_singleton.1 h]; rfl) ?_); clear HS; intro w HS))
  have c65 := (ptc hs1 HS 0 rfl 65 (by decide)).trans (stL_ended hs1)
  have cp64 := (ptc hs1 HS 0 rfl 64 (by decide)).trans (stL_pc hs1)
  have ci := HS.cell 4 rfl
  have HM := mchC HS 3 rfl
  have c64 := (HM.2.1 64 (by decide)).trans (stL_pc HM.1)
  have c73 := HM.2.2.2.2.2.1
  have fs := HM.2.2.1
  clear HM
  rw [h1] at c65
  subst h9
  have hnb : ((nt : Int) == 0) = false := beq_eq_false_iff_ne.mpr (by omega)
  obtain ⟨hwu, hqv, q0, q1, hwq⟩ : IntKind.u64.wrap (nt : Int) = (nt : Int) ∧ (IntKind.u64.wrap tq).tmod (nt : Int) = Q ∧ 0 ≤ Q ∧ Q < (nt : Int) ∧ wrap64 Q = Q := pick_facts tq nt h0 hnt Q hQ
  obtain ⟨ad, e, _⟩ := Kd.at_int (hT w (HS.tail.tail.tail.tail.tail)) Q q0 q1
  cases e
  have hnz : (nt = 0) = False := eq_false (by omega)
  clear hQ
  have r1 := eq_true q0
  have r2 := eq_true q1
  go_upto_region 6 with (fail)
  refine start_ (n := 17) (S := fun w' => Sat W0 w' (blk g3 94 (stL (aheadP code X).1 ++ [Value.slice Ap np cp]).toArray :: row k66 66 (.slice Ao (stepOut false code X).length co) (stepOut false code X) :: BQ (.slice Ap np cp) (aheadP code X).2 :: mch g A n c (.slice Ac code.length cc) (.slice (some ad) nt ct) win X :: blk gi 56 #[.int .i64 9, .int .i64 i1, .int .i64 i2, .int .i64 i3, .int .i64 i4, .int .i64 i5] :: L)) (ds := []) #[false, false, false, false, false, false, false, false, false, false, false, false, false, false, false, false, false] (by kernel_rfl) rfl rfl HS.drew (fun hHeld => ?_)
  replace HS := HS.drew
  generalize World.drew w = w at HS hHeld ⊢
  refine pure_ (i := 0) (N := some 43) (v := ?_) (a' := ?_) #[true, false, false, false, false, false, false, false, false, false, false, false, false, false, false, false, false] rfl rfl (by kernel_rfl) (fun _ _ _ h => h) (Or.inl ⟨by rfl, ?_⟩) ?_ ?_
  rotate_left
  · intro w'
    go_simp
    with_reducible rfl
  rotate_left
  · (try simp only [Act.put, List.setIfInBounds_toArray, List.set_cons_zero, List.set_cons_succ, i64_w, i32_w])
    rfl
  refine pure_ (i := 1) (N := some 44) (v := ?_) (a' := ?_) #[true, true, false, false, false, false, false, false, false, false, false, false, false, false, false, false, false] rfl rfl (by kernel_rfl) (fun _ _ _ h => h) (Or.inl ⟨by rfl, ?_⟩) ?_ ?_
  rotate_left
  · intro w'
    go_simp
    with_reducible rfl
  rotate_left
  · (try simp only [Act.put, List.setIfInBounds_toArray, List.set_cons_zero, List.set_cons_succ, i64_w, i32_w])
    rfl
  refine pure_ (i := 2) (N := some 45) (v := ?_) (a' := ?_) #[true, true, true, false, false, false, false, false, false, false, false, false, false, false, false, false, false] rfl rfl (by kernel_rfl) (fun _ _ _ h => h) (Or.inl ⟨by rfl, ?_⟩) ?_ ?_
  rotate_left
  · intro w'
    go_simp
    with_reducible rfl
  rotate_left
  · (try simp only [Act.put, List.setIfInBounds_toArray, List.set_cons_zero, List.set_cons_succ, i64_w, i32_w])
    rfl
  refine take_ (i := 3) (N := some 46) (v := ?_) (a' := ?_) #[true, true, true, true, false, false, false, false, false, false, false, false, false, false, false, false, false] rfl rfl (by kernel_rfl) (fun _ _ _ h => h) (Or.inl ⟨by rfl, ?_⟩) hHeld ?_ ?_
  rotate_left
  · rintro w' hS
    have c73 := (mchC hS 3 rfl).2.2.2.2.2.1
    obtain ⟨ad2, e2, z1⟩ := Kd.at_int (hT w' (hS.tail.tail.tail.tail.tail)) Q q0 q1
    cases e2
    go_simp
    with_reducible rfl
  rotate_left
  · (try simp only [Act.put, List.setIfInBounds_toArray, List.set_cons_zero, List.set_cons_succ, i64_w, i32_w])
    rfl
  refine pure_ (i := 4) (N := some 47) (v := ?_) (a' := ?_) #[true, true, true, true, true, false, false, false, false, false, false, false, false, false, false, false, false] rfl rfl (by kernel_rfl) (fun _ _ _ h => h) (Or.inl ⟨by rfl, ?_⟩) ?_ ?_
  rotate_left
  · intro w'
    go_simp
    with_reducible rfl
  rotate_left
  · (try simp only [Act.put, List.setIfInBounds_toArray, List.set_cons_zero, List.set_cons_succ, i64_w, i32_w])
    rfl
  refine pure_ (i := 5) (N := some 48) (v := ?_) (a' := ?_) #[true, true, true, true, true, true, false, false, false, false, false, false, false, false, false, false, false] rfl rfl (by kernel_rfl) (fun _ _ _ h => h) (Or.inl ⟨by rfl, ?_⟩) ?_ ?_
  rotate_left
  · intro w'
    go_simp
    with_reducible rfl
  rotate_left
  · (try simp only [Act.put, List.setIfInBounds_toArray, List.set_cons_zero, List.set_cons_succ, i64_w, i32_w])
    rfl
  refine pure_ (i := 6) (N := some 49) (v := ?_) (a' := ?_) #[true, true, true, true, true, true, true, false, false, false, false, false, false, false, false, false, false] rfl rfl (by kernel_rfl) (fun _ _ _ h => h) (Or.inl ⟨by rfl, ?_⟩) ?_ ?_
  rotate_left
  · intro w'
    go_simp
    with_reducible rfl
  rotate_left
  · (try simp only [Act.put, List.setIfInBounds_toArray, List.set_cons_zero, List.set_cons_succ, i64_w, i32_w])
    rfl
  refine pure_ (i := 7) (N := some 50) (v := ?_) (a' := ?_) #[true, true, true, true, true, true, true, true, false, false, false, false, false, false, false, false, false] rfl rfl (by kernel_rfl) (fun _ _ _ h => h) (Or.inl ⟨by rfl, ?_⟩) ?_ ?_
  rotate_left
  · intro w'
    go_simp
    with_reducible rfl
  rotate_left
  · (try simp only [Act.put, List.setIfInBounds_toArray, List.set_cons_zero, List.set_cons_succ, i64_w, i32_w])
    rfl
  refine pure_ (i := 8) (N := some 51) (v := ?_) (a' := ?_) #[true, true, true, true, true, true, true, true, true, false, false, false, false, false, false, false, false] rfl rfl (by kernel_rfl) (fun _ _ _ h => h) (Or.inl ⟨by rfl, ?_⟩) ?_ ?_
  rotate_left
  · intro w'
    go_simp
    with_reducible rfl
  rotate_left
  · (try simp only [Act.put, List.setIfInBounds_toArray, List.set_cons_zero, List.set_cons_succ, i64_w, i32_w])
    rfl
  refine take_ (i := 9) (N := some 52) (v := ?_) (a' := ?_) #[true, true, true, true, true, true, true, true, true, true, false, false, false, false, false, false, false] rfl rfl (by kernel_rfl) (fun _ _ _ h => h) (Or.inl ⟨by rfl, ?_⟩) hHeld ?_ ?_
  rotate_left
  · rintro w' hS
    have c73 := (mchC hS 3 rfl).2.2.2.2.2.1
    obtain ⟨ad2, e2, z1⟩ := Kd.at_int (hT w' (hS.tail.tail.tail.tail.tail)) Q q0 q1
    cases e2
    go_simp
    with_reducible rfl
  rotate_left
  · (try simp only [Act.put, List.setIfInBounds_toArray, List.set_cons_zero, List.set_cons_succ, i64_w, i32_w])
    rfl
  refine pure_ (i := 10) (N := some 53) (v := ?_) (a' := ?_) #[true, true, true, true, true, true, true, true, true, true, true, false, false, false, false, false, false] rfl rfl (by kernel_rfl) (fun _ _ _ h => h) (Or.inl ⟨by rfl, ?_⟩) ?_ ?_
  rotate_left
  · intro w'
    go_simp
    with_reducible rfl
  rotate_left
  · (try simp only [Act.put, List.setIfInBounds_toArray, List.set_cons_zero, List.set_cons_succ, i64_w, i32_w])
    rfl
  refine pure_ (i := 11) (N := some 54) (v := ?_) (a' := ?_) #[true, true, true, true, true, true, true, true, true, true, true, true, false, false, false, false, false] rfl rfl (by kernel_rfl) (fun _ _ _ h => h) (Or.inl ⟨by rfl, ?_⟩) ?_ ?_
  rotate_left
  · intro w'
    go_simp
    with_reducible rfl
  rotate_left
  · (try simp only [Act.put, List.setIfInBounds_toArray, List.set_cons_zero, List.set_cons_succ, i64_w, i32_w])
    rfl
  refine pure_ (i := 12) (N := some 55) (v := ?_) (a' := ?_) #[true, true, true, true, true, true, true, true, true, true, true, true, true, false, false, false, false] rfl rfl (by kernel_rfl) (fun _ _ _ h => h) (Or.inl ⟨by rfl, ?_⟩) ?_ ?_
  rotate_left
  · intro w'
    go_simp
    with_reducible rfl
  rotate_left
  · (try simp only [Act.put, List.setIfInBounds_toArray, List.set_cons_zero, List.set_cons_succ, i64_w, i32_w])
    rfl
  refine pure_ (i := 13) (N := some 56) (v := ?_) (a' := ?_) #[true, true, true, true, true, true, true, true, true, true, true, true, true, true, false, false, false] rfl rfl (by kernel_rfl) (fun _ _ _ h => h) (Or.inl ⟨by rfl, ?_⟩) ?_ ?_
  rotate_left
  · intro w'
    go_simp
    with_reducible rfl
  rotate_left
  · (try simp only [Act.put, List.setIfInBounds_toArray, List.set_cons_zero, List.set_cons_succ, i64_w, i32_w])
    rfl
  refine pure_ (i := 14) (N := some 57) (v := ?_) (a' := ?_) #[true, true, true, true, true, true, true, true, true, true, true, true, true, true, true, false, false] rfl rfl (by kernel_rfl) (fun _ _ _ h => h) (Or.inl ⟨by rfl, ?_⟩) ?_ ?_
  rotate_left
  · intro w'
    go_simp
    with_reducible rfl
  rotate_left
  · (try simp only [Act.put, List.setIfInBounds_toArray, List.set_cons_zero, List.set_cons_succ, i64_w, i32_w])
    rfl
  refine take_ (i := 15) (N := some 58) (v := ?_) (a' := ?_) #[true, true, true, true, true, true, true, true, true, true, true, true, true, true, true, true, false] rfl rfl (by kernel_rfl) (fun _ _ _ h => h) (Or.inl ⟨by rfl, ?_⟩) hHeld ?_ ?_
  rotate_left
  · rintro w' hS
    have c73 := (mchC hS 3 rfl).2.2.2.2.2.1
    obtain ⟨ad2, e2, z1⟩ := Kd.at_int (hT w' (hS.tail.tail.tail.tail.tail)) Q q0 q1
    cases e2
    go_simp
    with_reducible rfl
  rotate_left
  · (try simp only [Act.put, List.setIfInBounds_toArray, List.set_cons_zero, List.set_cons_succ, i64_w, i32_w])
    rfl
  refine pure_ (i := 16) (N := some 9) (v := ?_) (a' := ?_) #[true, true, true, true, true, true, true, true, true, true, true, true, true, true, true, true, true] rfl rfl (by kernel_rfl) (fun _ _ _ h => h) (Or.inl ⟨by rfl, ?_⟩) ?_ ?_
  rotate_left
  · intro w'
    go_simp
    with_reducible rfl
  rotate_left
  · (try simp only [Act.put, List.setIfInBounds_toArray, List.set_cons_zero, List.set_cons_succ, i64_w, i32_w])
    rfl
  refine done_ (by kernel_rfl) ?_
  clear hHeld
  go_upto_region 10 with (first | ((with_reducible refine gate_load (ty := 94) (p := 7) rfl ?_); go_must (refine ev_load HS 0 rfl rfl 94 (.tmp 7) rfl (N := 68) rfl rfl _ Try.underlying94 rfl (size_pt hs1) ?_)) | (go_at_call 41; refine (guess_calls (b1 := (aheadP code X).2) hs1 rfl rfl (show X.n ≤ 900000 by omega) ((HS.tail).insert 2 (by simp))).mono ?_; rintro e w_ ⟨rfl, HS_⟩; clear HS; have HS := HS_; clear HS_))
  obtain ⟨Y, hY⟩ : ∃ Y, Y = guessF win (aheadP code X) X := ⟨_, rfl⟩
  have hYs : Y.s = X.s := by rw [hY]; rfl
  rw [← hYs] at hsX
  replace HS : Sat W0 w_ (mch g A n c (.slice Ac code.length cc) (.slice (some ad) nt ct) win Y :: row k66 66 (.slice Ao (stepOut false code X).length co) (stepOut false code X) :: L) := by rw [hY]; exact HS.erase 2
  have HYY := Aside0.mk hY
  clear hY c64 c65 cp64 c73 ci fs hYs
  have HM := mchC HS 0 rfl
  have c68 := (HM.2.1 68 (by decide)).trans (stL_steps HM.1)
  have fs := HM.2.2.1
  clear HM
  go_upto_region 11 with (fail)
  refine wp_sat (mchSet (s' := { Y.s with steps := wrap64 (Y.s.steps + 1) }) HS 68 _ (by decide) hsX (set_steps hsX _)) (fun w HS => ?_)
  clear c68 fs
  have HM := mchC HS 0 rfl
  have c64 := (HM.2.1 64 (by decide)).trans (stL_pc HM.1)
  have fs := HM.2.2.1
  clear HM
  go_upto_region 12 with (fail)
  refine wp_sat (mchSet (s' := { { Y.s with steps := wrap64 (Y.s.steps + 1) } with pc := (rd sites Q) }) HS 64 _ (by decide) hsX (set_pc (s := { Y.s with steps := wrap64 (Y.s.steps + 1) }) hsX _)) (fun w HS => ?_)
  clear c64 fs
  go_wp2
  go_ret
  rw [HYY.out] at HS
  exact ⟨_, rfl, HS.swap⟩

set_option maxRecDepth 100000 in
set_option maxHeartbeats 2000000 in
theorem wrong_way {X : SM} {sites : List Int} {i0 i1 i2 i3 i4 i5 tq : Int} (hC : ∀ w, Sat W0 w L → Kd.C k56 w Ac code.length code) (hfit : ∀ i ∈ code, Fit i) (hn : X.n ≤ 800000) (hb : X.buf.length ≤ 800000)(hT : ∀ w, Sat W0 w L → Kd.C (Kd.int .i64) w At nt sites) (h1 : (aheadP code X).1.ended = false) (h9 : ¬ i0 = 9) (h0 : (aheadP code X).1.pc = wrap64 (X.s.pc + 1)) (HS : Sat W0 w (mch g A n c (.slice Ac code.length cc) (.slice At nt ct) win X :: L)) :
    Calls Try.prog 32 #[.pointer (some ⟨g, 0, none⟩), .agg #[.int .i64 i0, .int .i64 i1, .int .i64 i2, .int .i64 i3, .int .i64 i4, .int .i64 i5], .int .i64 tq] w fun e w' => ∃ v, e = .returned v ∧ Sat W0 w' (row k66 66 v (stepOut false code X) :: mch g A n c (.slice Ac code.length cc) (.slice At nt ct) win (setPC (guessF win (aheadP code X) X) i5) :: L) := by
  have hsX := (mchC HS 0 rfl).1
  have hs1 : (aheadP code X).1.regs.length = 64 := stepF_regs (vF false) code X.s ⟨X.mem, X.buf⟩ hsX
  have hlen := stepF_len (vF false) code X.s ⟨X.mem, X.buf⟩
  have HA := Aside0.mk (show Calls Try.prog 40 #[.pointer (some ⟨g, 0, none⟩)] w (fun e w' => ∃ vb vo, e = .returned (.tuple #[.agg (stL (aheadP code X).1 ++ [vb]).toArray, vo]) ∧ Sat W0 w' (row k66 66 vo (stepOut false code X) :: BQ vb (aheadP code X).2 :: mch g A n c (.slice Ac code.length cc) (.slice At nt ct) win X :: L)) from ahead_calls hC hfit (show X.buf.length ≤ 900000 by omega) HS)
  have c73_ := HS
  clear c73_
  go_enter Try.func32, Try.ntmps32
  go_upto_region 1 with ((with_reducible refine gate_dst (N := 4) rfl ?_); go_must (refine ev_box HS rfl (N := 4) rfl (cs := #[.int .i64 i0, .int .i64 i1, .int .i64 i2, .int .i64 i3, .int .i64 i4, .int .i64 i5]) (t := 56) ?hrun ?_); (case hrun => first | (go_simp; done) | (go_simp; rfl)); clear HS; intro gi w HS)
  replace HA := Aside0.mk (show Calls Try.prog 40 #[.pointer (some ⟨g, 0, none⟩)] w (fun e w' => ∃ vb vo, e = .returned (.tuple #[.agg (stL (aheadP code X).1 ++ [vb]).toArray, vo]) ∧ Sat W0 w' (row k66 66 vo (stepOut false code X) :: BQ vb (aheadP code X).2 :: mch g A n c (.slice Ac code.length cc) (.slice At nt ct) win X :: blk gi 56 #[.int .i64 i0, .int .i64 i1, .int .i64 i2, .int .i64 i3, .int .i64 i4, .int .i64 i5] :: L)) from ahead_calls (fun w h => hC w h.tail) hfit (show X.buf.length ≤ 900000 by omega) HS.swap)
  go_upto_region 2 with (first | (go_at_call 40; refine HA.out.mono ?_; rintro e w_ ⟨vp, vo, rfl, HS_⟩; clear HS HA; have HS := HS_; clear HS_; obtain ⟨Ao, co, rfl⟩ := HS.slice 0 rfl; obtain ⟨Ap, cp, rfl, _⟩ := HS.queSlice 1 rfl; obtain ⟨np, hnp⟩ : ∃ np, ((aheadP code X).2.map wc).length = np := ⟨_, rfl⟩; rw [hnp] at HS ⊢; clear hnp) | ((with_reducible refine gate_dst (N := 7) rfl ?_); go_must (refine ev_box HS rfl (N := 7) rfl (cs := ptZ) (t := 94) ?hrun ?_); (case hrun => first | (go_simp; done) | (go_simp; rfl)); clear HS; intro g3 w HS) | ((with_reducible refine gate_store (t := 94) (p := 7) rfl ?_); go_must (refine ev_store HS 0 rfl rfl 94 (.tmp 7) (.tmp 13) rfl rfl rfl (stL (aheadP code X).1 ++ [.slice Ap np cp]) rfl (len_pt hs1) (by rw [List.length_append, stL_length hs1]; rfl) (by intro q hq; rcases List.mem_append.1 hq with h | h; exact stL_one _ q h; rw [List.mem_singleton.1 h]; rfl) ?_); clear HS; intro w HS))
  have c65 := (ptc hs1 HS 0 rfl 65 (by decide)).trans (stL_ended hs1)
  have cp64 := (ptc hs1 HS 0 rfl 64 (by decide)).trans (stL_pc hs1)
  have ci := HS.cell 4 rfl
  have HM := mchC HS 3 rfl
  have c64 := (HM.2.1 64 (by decide)).trans (stL_pc HM.1)
  have c73 := HM.2.2.2.2.2.1
  have fs := HM.2.2.1
  clear HM
  rw [h1] at c65
  have h9b : (i0 == 9) = false := beq_eq_false_iff_ne.mpr h9
  have hpb : (wrap64 (X.s.pc + 1) == wrap64 (X.s.pc + 1)) = true := beq_self_eq_true _
  rw [h0] at cp64
  clear h0
  go_upto_region 9 with (fail)
  go_upto_region 10 with (first | ((with_reducible refine gate_load (ty := 94) (p := 7) rfl ?_); go_must (refine ev_load HS 0 rfl rfl 94 (.tmp 7) rfl (N := 68) rfl rfl _ Try.underlying94 rfl (size_pt hs1) ?_)) | (go_at_call 41; refine (guess_calls (b1 := (aheadP code X).2) hs1 rfl rfl (show X.n ≤ 900000 by omega) ((HS.tail).insert 2 (by simp))).mono ?_; rintro e w_ ⟨rfl, HS_⟩; clear HS; have HS := HS_; clear HS_))
  obtain ⟨Y, hY⟩ : ∃ Y, Y = guessF win (aheadP code X) X := ⟨_, rfl⟩
  have hYs : Y.s = X.s := by rw [hY]; rfl
  rw [← hYs] at hsX
  replace HS : Sat W0 w_ (mch g A n c (.slice Ac code.length cc) (.slice At nt ct) win Y :: row k66 66 (.slice Ao (stepOut false code X).length co) (stepOut false code X) :: L) := by rw [hY]; exact HS.erase 2
  have HYY := Aside0.mk hY
  clear hY c64 c65 cp64 c73 ci fs hYs
  have HM := mchC HS 0 rfl
  have c68 := (HM.2.1 68 (by decide)).trans (stL_steps HM.1)
  have fs := HM.2.2.1
  clear HM
  go_upto_region 11 with (fail)
  refine wp_sat (mchSet (s' := { Y.s with steps := wrap64 (Y.s.steps + 1) }) HS 68 _ (by decide) hsX (set_steps hsX _)) (fun w HS => ?_)
  clear c68 fs
  have HM := mchC HS 0 rfl
  have c64 := (HM.2.1 64 (by decide)).trans (stL_pc HM.1)
  have fs := HM.2.2.1
  clear HM
  go_upto_region 12 with (fail)
  refine wp_sat (mchSet (s' := { { Y.s with steps := wrap64 (Y.s.steps + 1) } with pc := i5 }) HS 64 _ (by decide) hsX (set_pc (s := { Y.s with steps := wrap64 (Y.s.steps + 1) }) hsX _)) (fun w HS => ?_)
  clear c64 fs
  go_wp2
  go_ret
  rw [HYY.out] at HS
  exact ⟨_, rfl, HS.swap⟩

set_option maxRecDepth 100000 in
set_option maxHeartbeats 2000000 in
theorem wrong_on {X : SM} {sites : List Int} {i0 i1 i2 i3 i4 i5 tq : Int} (hC : ∀ w, Sat W0 w L → Kd.C k56 w Ac code.length code) (hfit : ∀ i ∈ code, Fit i) (hn : X.n ≤ 800000) (hb : X.buf.length ≤ 800000)(hT : ∀ w, Sat W0 w L → Kd.C (Kd.int .i64) w At nt sites) (h1 : (aheadP code X).1.ended = false) (h9 : ¬ i0 = 9) (h0 : ¬ (aheadP code X).1.pc = wrap64 (X.s.pc + 1)) (HS : Sat W0 w (mch g A n c (.slice Ac code.length cc) (.slice At nt ct) win X :: L)) :
    Calls Try.prog 32 #[.pointer (some ⟨g, 0, none⟩), .agg #[.int .i64 i0, .int .i64 i1, .int .i64 i2, .int .i64 i3, .int .i64 i4, .int .i64 i5], .int .i64 tq] w fun e w' => ∃ v, e = .returned v ∧ Sat W0 w' (row k66 66 v (stepOut false code X) :: mch g A n c (.slice Ac code.length cc) (.slice At nt ct) win (setPC (guessF win (aheadP code X) X) (wrap64 (X.s.pc + 1))) :: L) := by
  have hsX := (mchC HS 0 rfl).1
  have hs1 : (aheadP code X).1.regs.length = 64 := stepF_regs (vF false) code X.s ⟨X.mem, X.buf⟩ hsX
  have hlen := stepF_len (vF false) code X.s ⟨X.mem, X.buf⟩
  have HA := Aside0.mk (show Calls Try.prog 40 #[.pointer (some ⟨g, 0, none⟩)] w (fun e w' => ∃ vb vo, e = .returned (.tuple #[.agg (stL (aheadP code X).1 ++ [vb]).toArray, vo]) ∧ Sat W0 w' (row k66 66 vo (stepOut false code X) :: BQ vb (aheadP code X).2 :: mch g A n c (.slice Ac code.length cc) (.slice At nt ct) win X :: L)) from ahead_calls hC hfit (show X.buf.length ≤ 900000 by omega) HS)
  have c73_ := HS
  clear c73_
  go_enter Try.func32, Try.ntmps32
  go_upto_region 1 with ((with_reducible refine gate_dst (N := 4) rfl ?_); go_must (refine ev_box HS rfl (N := 4) rfl (cs := #[.int .i64 i0, .int .i64 i1, .int .i64 i2, .int .i64 i3, .int .i64 i4, .int .i64 i5]) (t := 56) ?hrun ?_); (case hrun => first | (go_simp; done) | (go_simp; rfl)); clear HS; intro gi w HS)
  replace HA := Aside0.mk (show Calls Try.prog 40 #[.pointer (some ⟨g, 0, none⟩)] w (fun e w' => ∃ vb vo, e = .returned (.tuple #[.agg (stL (aheadP code X).1 ++ [vb]).toArray, vo]) ∧ Sat W0 w' (row k66 66 vo (stepOut false code X) :: BQ vb (aheadP code X).2 :: mch g A n c (.slice Ac code.length cc) (.slice At nt ct) win X :: blk gi 56 #[.int .i64 i0, .int .i64 i1, .int .i64 i2, .int .i64 i3, .int .i64 i4, .int .i64 i5] :: L)) from ahead_calls (fun w h => hC w h.tail) hfit (show X.buf.length ≤ 900000 by omega) HS.swap)
  go_upto_region 2 with (first | (go_at_call 40; refine HA.out.mono ?_; rintro e w_ ⟨vp, vo, rfl, HS_⟩; clear HS HA; have HS := HS_; clear HS_; obtain ⟨Ao, co, rfl⟩ := HS.slice 0 rfl; obtain ⟨Ap, cp, rfl, _⟩ := HS.queSlice 1 rfl; obtain ⟨np, hnp⟩ : ∃ np, ((aheadP code X).2.map wc).length = np := ⟨_, rfl⟩; rw [hnp] at HS ⊢; clear hnp) | ((with_reducible refine gate_dst (N := 7) rfl ?_); go_must (refine ev_box HS rfl (N := 7) rfl (cs := ptZ) (t := 94) ?hrun ?_); (case hrun => first | (go_simp; done) | (go_simp; rfl)); clear HS; intro g3 w HS) | ((with_reducible refine gate_store (t := 94) (p := 7) rfl ?_); go_must (refine ev_store HS 0 rfl rfl 94 (.tmp 7) (.tmp 13) rfl rfl rfl (stL (aheadP code X).1 ++ [.slice Ap np cp]) rfl (len_pt hs1) (by rw [List.length_append, stL_length hs1]; rfl) (by intro q hq; rcases List.mem_append.1 hq with h | h; exact stL_one _ q h; rw [List.mem_singleton.1 h]; rfl) ?_); clear HS; intro w HS))
  have c65 := (ptc hs1 HS 0 rfl 65 (by decide)).trans (stL_ended hs1)
  have cp64 := (ptc hs1 HS 0 rfl 64 (by decide)).trans (stL_pc hs1)
  have ci := HS.cell 4 rfl
  have HM := mchC HS 3 rfl
  have c64 := (HM.2.1 64 (by decide)).trans (stL_pc HM.1)
  have c73 := HM.2.2.2.2.2.1
  have fs := HM.2.2.1
  clear HM
  rw [h1] at c65
  have h9b : (i0 == 9) = false := beq_eq_false_iff_ne.mpr h9
  have hpb : ((aheadP code X).1.pc == wrap64 (X.s.pc + 1)) = false := beq_eq_false_iff_ne.mpr h0
  clear h0
  go_upto_region 9 with (fail)
  go_upto_region 10 with (first | ((with_reducible refine gate_load (ty := 94) (p := 7) rfl ?_); go_must (refine ev_load HS 0 rfl rfl 94 (.tmp 7) rfl (N := 68) rfl rfl _ Try.underlying94 rfl (size_pt hs1) ?_)) | (go_at_call 41; refine (guess_calls (b1 := (aheadP code X).2) hs1 rfl rfl (show X.n ≤ 900000 by omega) ((HS.tail).insert 2 (by simp))).mono ?_; rintro e w_ ⟨rfl, HS_⟩; clear HS; have HS := HS_; clear HS_))
  obtain ⟨Y, hY⟩ : ∃ Y, Y = guessF win (aheadP code X) X := ⟨_, rfl⟩
  have hYs : Y.s = X.s := by rw [hY]; rfl
  rw [← hYs] at hsX
  replace HS : Sat W0 w_ (mch g A n c (.slice Ac code.length cc) (.slice At nt ct) win Y :: row k66 66 (.slice Ao (stepOut false code X).length co) (stepOut false code X) :: L) := by rw [hY]; exact HS.erase 2
  have HYY := Aside0.mk hY
  clear hY c64 c65 cp64 c73 ci fs hYs
  have HM := mchC HS 0 rfl
  have c68 := (HM.2.1 68 (by decide)).trans (stL_steps HM.1)
  have fs := HM.2.2.1
  clear HM
  go_upto_region 11 with (fail)
  refine wp_sat (mchSet (s' := { Y.s with steps := wrap64 (Y.s.steps + 1) }) HS 68 _ (by decide) hsX (set_steps hsX _)) (fun w HS => ?_)
  clear c68 fs
  have HM := mchC HS 0 rfl
  have c64 := (HM.2.1 64 (by decide)).trans (stL_pc HM.1)
  have fs := HM.2.2.1
  clear HM
  go_upto_region 12 with (fail)
  refine wp_sat (mchSet (s' := { { Y.s with steps := wrap64 (Y.s.steps + 1) } with pc := (wrap64 (X.s.pc + 1)) }) HS 64 _ (by decide) hsX (set_pc (s := { Y.s with steps := wrap64 (Y.s.steps + 1) }) hsX _)) (fun w HS => ?_)
  clear c64 fs
  go_wp2
  go_ret
  rw [HYY.out] at HS
  exact ⟨_, rfl, HS.swap⟩

theorem wrong_calls {X : SM} {sites : List Int} {i0 i1 i2 i3 i4 i5 tq : Int} (hC : ∀ w, Sat W0 w L → Kd.C k56 w Ac code.length code) (hfit : ∀ i ∈ code, Fit i) (hn : X.n ≤ 800000) (hb : X.buf.length ≤ 800000)(hT : ∀ w, Sat W0 w L → Kd.C (Kd.int .i64) w At sites.length sites) (hnt : sites.length ≤ 1000000) (HS : Sat W0 w (mch g A n c (.slice Ac code.length cc) (.slice At sites.length ct) win X :: L)) :
    Calls Try.prog 32 #[.pointer (some ⟨g, 0, none⟩), .agg #[.int .i64 i0, .int .i64 i1, .int .i64 i2, .int .i64 i3, .int .i64 i4, .int .i64 i5], .int .i64 tq] w fun e w' => ∃ v, e = .returned v ∧ Sat W0 w' (row k66 66 v (wrongF code sites win i0 i5 tq X).2 :: mch g A n c (.slice Ac code.length cc) (.slice At sites.length ct) win (wrongF code sites win i0 i5 tq X).1 :: L) := by
  unfold wrongF
  by_cases h1 : (aheadP code X).1.ended = true
  · rw [if_pos (.inl h1)]; exact wrong_end hC hfit hn hb hT h1 HS
  · have h1b : (aheadP code X).1.ended = false := by simpa using h1
    by_cases h9 : i0 = 9
    · by_cases h0 : sites = []
      · rw [if_pos (.inr ⟨h9, h0⟩)]; exact wrong_none hC hfit hn hb hT h1b h9 (by rw [h0]; rfl) HS
      · rw [if_neg (by rintro (h | h); exact h1 h; exact h0 h.2)]
        unfold wrongAt
        rw [if_pos h9]
        exact wrong_ret hC hfit hn hb hT h1b h9 (List.length_pos_iff.2 h0) hnt _ rfl HS
    · rw [if_neg (by rintro (h | h); exact h1 h; exact h9 h.1)]
      unfold wrongAt
      rw [if_neg h9]
      by_cases h0 : (aheadP code X).1.pc = wrap64 (X.s.pc + 1)
      · rw [if_pos h0]; exact wrong_way hC hfit hn hb hT h1b h9 h0 HS
      · rw [if_neg h0]; exact wrong_on hC hfit hn hb hT h1b h9 h0 HS

end
/-- What is left of the words that wait. -/
theorem cmt_len (k : Nat) : ∀ (m : List Int) (b : List (Int × Int)), (cmt k m b).2.length ≤ b.length
  | m, [] => Nat.le_refl _
  | m, x :: r => by
    rw [cmt]
    split
    · exact Nat.le_trans (cmt_len k _ r) (by simp)
    · exact Nat.le_refl _
def doN (code : List S56) (sites : List Int) (win : Int) (X : SM) (deed tq : Int) : SM × List S66 :=
  if X.s.pc < 0 ∨ (code.length : Int) ≤ X.s.pc then honestF code X
  else if (rd_T56 code X.s.pc).f0 = 10 then (if X.saved.isSome = true then (backF X, [⟨6, 0, 0⟩]) else honestF code (commitF 0 X))
  else if deed = 1 ∧ ((rd_T56 code X.s.pc).f0 = 7 ∨ (rd_T56 code X.s.pc).f0 = 9) then wrongF code sites win (rd_T56 code X.s.pc).f0 (rd_T56 code X.s.pc).f5 tq X
  else if deed = 2 ∧ (rd_T56 code X.s.pc).f0 = 4 then staleF code win X
  else honestF code X
def doM (code : List S56) (sites : List Int) (win : Int) (X : SM) (deed tq : Int) : SM × List S66 :=
  if X.s.ended = true ∧ X.saved.isSome = false then (X, [])
  else if X.saved.isSome = true ∧ (deed = 3 ∨ X.left = 0) then (backF X, [⟨6, 0, 0⟩])
  else doN code sites win (if X.saved.isSome = true then { X with left := wrap64 (X.left - 1) } else X) deed tq
section
variable {g : Nat} {A : Option Addr} {n c : Nat} {win : Int} {W0 w : World} {L : List Chunk} {Ac At : Option Addr} {cc ct : Nat} {code : List S56} {sites : List Int}
theorem mchLeft {X : SM} {vc vt : Value} (HS : Sat W0 w (mch g A n c vc vt win X :: L)) (v : Int) : Sat W0 (w.setCell ⟨g, 75, none⟩ (.int .i64 v)) (mch g A n c vc vt win { X with left := v } :: L) := by
  obtain ⟨vb, vs, hs, HS⟩ := mOpen HS
  exact mClose (X := { X with left := v }) hs (mb_set (vm' := .slice A n c) (vb' := vb) (vs' := vs) (left' := v) hs HS 6 (.int .i64 v) rfl)
end

end Go.Proofs.Ytkgoljbimblkhaa.B
