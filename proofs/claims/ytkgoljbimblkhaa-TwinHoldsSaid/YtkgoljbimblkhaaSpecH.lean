/- The machine that runs ahead: the next instruction as it is. -/
import Derived.Test.YtkgoljbimblkhaaSpecM
namespace Go.Proofs.Ytkgoljbimblkhaa.B
open Go.RowKit Go.Proofs.Ytkgoljbimblkhaa.Mine Go.Proofs.Ytkgoljbimblkhaa.Sep Go.Proofs.YtkgoljbimblkhaaW.PrintWords Go.Proofs.YtkgoljbimblkhaaW.PrintLast Go.Proofs.YtkgoljbimblkhaaW.PrintMore
set_option linter.unusedVariables false
set_option linter.unusedSimpArgs false
/-- A step turns no word of memory, and lets one word wait at most. -/
theorem vWr_keeps (m : VM) (a x : Int) : (vWr m a x).1.mem = m.mem ∧ (vWr m a x).1.buf.length ≤ m.buf.length + 1 := by
  unfold vWr
  split <;> simp
theorem vreach_keeps (k : Bool) (i : S56) (s : St) (m : VM) : (reachF (vF k) i s m).2.1.mem = m.mem ∧ (reachF (vF k) i s m).2.1.buf.length ≤ m.buf.length + 1 := by
  unfold reachF
  split
  · split <;> exact ⟨rfl, Nat.le_succ _⟩
  · split <;> exact vWr_keeps m _ _
theorem vcall_keeps (k : Bool) (i : S56) (s : St) (m : VM) : (callF (vF k) i s m).2.1.mem = m.mem ∧ (callF (vF k) i s m).2.1.buf.length ≤ m.buf.length + 1 := by
  unfold callF
  split
  · split <;> exact vWr_keeps m _ _
  · split <;> exact ⟨rfl, Nat.le_succ _⟩
theorem vdo_keeps (k : Bool) (i : S56) (s : St) (m : VM) : (doF (vF k) i s m).2.1.mem = m.mem ∧ (doF (vF k) i s m).2.1.buf.length ≤ m.buf.length + 1 := by
  have h : m.mem = m.mem ∧ m.buf.length ≤ m.buf.length + 1 := ⟨rfl, Nat.le_succ _⟩
  unfold doF
  split
  · exact h
  split
  · exact h
  split
  · split <;> exact h
  split
  · exact vreach_keeps k i s m
  split
  · exact h
  split
  · split <;> exact h
  split
  · exact vcall_keeps k i s m
  split
  · exact h
  split <;> exact h
theorem vstep_keeps (k : Bool) (code : List S56) (s : St) (m : VM) : (stepF (vF k) code s m).2.1.mem = m.mem ∧ (stepF (vF k) code s m).2.1.buf.length ≤ m.buf.length + 1 := by
  unfold stepF
  split
  · exact ⟨rfl, Nat.le_succ _⟩
  split
  · exact ⟨rfl, Nat.le_succ _⟩
  · exact vdo_keeps k _ _ _
theorem stepF_len {M : Type} (f : MF M) (code : List S56) (s : St) (m : M) : (stepF f code s m).2.2.length ≤ 3 := by
  unfold stepF
  split
  · simp
  split
  · simp
  · have := doF_len f (rd_T56 code s.pc) { s with steps := wrap64 (s.steps + 1) } m
    simp only [List.length_cons]; omega
def steppedF (k : Bool) (code : List S56) (X : SM) : SM := { X with s := (stepF (vF k) code X.s ⟨X.mem, X.buf⟩).1, buf := (stepF (vF k) code X.s ⟨X.mem, X.buf⟩).2.1.buf }
def stepOut (k : Bool) (code : List S56) (X : SM) : List S66 := (stepF (vF k) code X.s ⟨X.mem, X.buf⟩).2.2
def honestT (X : SM) (out : List S66) : SM × List S66 :=
  if X.s.ended = true then (if X.saved.isSome = true then (backF X, out ++ [⟨6, 0, 0⟩]) else (commitF 0 X, out)) else if X.saved.isSome = true then (X, out) else (commitF 8 X, out)
def honestF (code : List S56) (X : SM) : SM × List S66 := honestT (steppedF false code X) (stepOut false code X)
section
variable {g : Nat} {A : Option Addr} {n c : Nat} {vc vt : Value} {win : Int} {W0 w : World} {L : List Chunk} {Ac : Option Addr} {cc : Nat} {code : List S56}
theorem mchC {X : SM} (HS : Sat W0 w L) (i : Nat) (hi : L[i]? = some (mch g A n c vc vt win X)) : X.s.regs.length = 64 ∧ (∀ j, j < 69 → w.cell? ⟨g, j, none⟩ = (stL X.s)[j]?) ∧ (∀ j, w.frozen? ⟨g, j, none⟩ = false) ∧
    w.cell? ⟨g, 69, none⟩ = some vc ∧ w.cell? ⟨g, 70, none⟩ = some (.slice A n c) ∧ w.cell? ⟨g, 73, none⟩ = some vt ∧ w.cell? ⟨g, 74, none⟩ = some (.int .i64 win) ∧ w.cell? ⟨g, 75, none⟩ = some (.int .i64 X.left) := by
  obtain ⟨vb, vs, hs, HS⟩ := mOpen (HS.front i hi)
  exact ⟨hs, fun j hj => mcell hs HS 0 rfl j hj, fun j => HS.frozen 0 rfl j, mcellT hs HS 0 rfl 0, mcellT hs HS 0 rfl 1, mcellT hs HS 0 rfl 4, mcellT hs HS 0 rfl 5, mcellT hs HS 0 rfl 6⟩
theorem stepped {X : SM} {vs : Value} {k : Bool} {v : Value} {r : St × VM × List S66} (hr : r = stepF (vF k) code X.s ⟨X.mem, X.buf⟩) (hs : r.1.regs.length = 64) (HS : Sat W0 w (row k66 66 v r.2.2 :: vch g A n c vc vs vt win X.left r.1 r.2.1 :: SVD vs X.saved X.n :: L)) :
    Sat W0 w (row k66 66 v (stepOut k code X) :: mch g A n c vc vt win (steppedF k code X) :: L) := by
  obtain ⟨vb, _, h⟩ := vOpen HS.swap
  have h2 : Sat W0 w (MB g r.1 vc (.slice A n c) vb vs vt win X.left :: BQ vb r.2.1.buf :: row IW 2 (.slice A n c) r.2.1.mem :: SVD vs X.saved X.n :: row k66 66 v r.2.2 :: L) := (h.front 3 rfl).insert 4 (by simp)
  have hk := vstep_keeps k code X.s ⟨X.mem, X.buf⟩
  rw [← hr] at hk
  rw [hk.1] at h2
  unfold stepOut
  rw [← hr]
  refine (mClose (X := steppedF k code X) (vb := vb) (vs := vs) ?_ ?_).swap
  · unfold steppedF; rw [← hr]; exact hs
  · unfold steppedF; rw [← hr]; exact h2

theorem stepF_regs {M : Type} (f : MF M) (code : List S56) (s : St) (m : M) (hs : s.regs.length = 64) : (stepF f code s m).1.regs.length = 64 := by
  have hr : ∀ (i : S56) (s : St), s.regs.length = 64 → (reachF f i s m).1.regs.length = 64 := fun i s hs => by unfold reachF; split <;> split <;> simp [stopF, hs]
  have hc : ∀ (i : S56) (s : St), s.regs.length = 64 → (callF f i s m).1.regs.length = 64 := fun i s hs => by unfold callF; split <;> split <;> simp [stopF, hs]
  have hd : ∀ (i : S56) (s : St), s.regs.length = 64 → (doF f i s m).1.regs.length = 64 := fun i s hs => by
    unfold doF
    split
    · simp [hs]
    split
    · simp [hs]
    split
    · split <;> simp [stopF, hs]
    split
    · exact hr i s hs
    split
    · exact hs
    split
    · split <;> exact hs
    split
    · exact hc i s hs
    split
    · exact hs
    split <;> exact hs
  unfold stepF
  split
  · exact hs
  split
  · exact hs
  · exact hd _ _ hs

set_option maxRecDepth 100000 in
set_option maxHeartbeats 2000000 in
theorem honest_back {X : SM} (hC : ∀ w, Sat W0 w L → Kd.C k56 w Ac code.length code) (hfit : ∀ i ∈ code, Fit i) (hn : X.n ≤ 900000) (hb : X.buf.length ≤ 900000) (HS : Sat W0 w (mch g A n c (.slice Ac code.length cc) vt win X :: L)) (h1 : (steppedF false code X).s.ended = true) (h2 : X.saved.isSome = true) :
    Calls Try.prog 30 #[.pointer (some ⟨g, 0, none⟩)] w fun e w' => ∃ v, e = .returned v ∧ Sat W0 w' (row k66 66 v (stepOut false code X ++ [⟨6, 0, 0⟩]) :: mch g A n c (.slice Ac code.length cc) vt win (backF (steppedF false code X)) :: L) := by
  have hlen := stepF_len (vF false) code X.s ⟨X.mem, X.buf⟩
  obtain ⟨vb, vs, hs, HS⟩ := mOpen HS
  have hXb : (steppedF false code X).buf.length ≤ 1000000 := by have := (vstep_keeps false code X.s ⟨X.mem, X.buf⟩).2; unfold steppedF; dsimp only at this ⊢; omega
  have hXn : (steppedF false code X).n ≤ 1000000 := by show X.n ≤ 1000000; omega
  have h2' : (steppedF false code X).saved.isSome = true := h2
  obtain ⟨X1, hX1⟩ : ∃ X1, X1 = steppedF false code X := ⟨_, rfl⟩
  obtain ⟨out, ho⟩ : ∃ out, out = stepOut false code X := ⟨_, rfl⟩
  rw [← hX1] at hXb hXn h1 h2' ⊢
  rw [← ho]
  have hol : out.length ≤ 3 := by rw [ho]; exact hlen
  have HXO := Aside0.mk (And.intro hX1 ho)
  have HXB := Aside0.mk (And.intro hXb (And.intro hXn hol))
  clear hX1 ho hlen hXb hXn hol h2
  have H12 := Aside0.mk (And.intro h1 h2')
  clear h1 h2'
  go_enter Try.func30, Try.ntmps30
  go_upto_region 1 with (fail)
  refine start_ (n := 12) (S := fun w' => ∃ L', Sat W0 w' (MB g X.s (.slice Ac code.length cc) (.slice A n c) vb vs vt win X.left :: L')) (ds := [10]) #[false, false, false, false, false, false, false, false, false, false, false, false] (by kernel_rfl) rfl rfl ⟨_, HS.drew⟩ (fun hHeld => ?_)
  replace HS := HS.drew
  generalize World.drew w = w at HS hHeld ⊢
  refine pure_ (i := 0) (N := some 4) (v := ?_) (a' := ?_) #[true, false, false, false, false, false, false, false, false, false, false, false] rfl rfl (by kernel_rfl) (fun _ _ _ h => h) (Or.inl ⟨by rfl, ?_⟩) ?_ ?_
  rotate_left
  · intro w'
    go_simp
    with_reducible rfl
  rotate_left
  · (try simp only [Act.put, List.setIfInBounds_toArray, List.set_cons_zero, List.set_cons_succ, i64_w, i32_w])
    rfl
  refine pure_ (i := 1) (N := some 5) (v := ?_) (a' := ?_) #[true, true, false, false, false, false, false, false, false, false, false, false] rfl rfl (by kernel_rfl) (fun _ _ _ h => h) (Or.inl ⟨by rfl, ?_⟩) ?_ ?_
  rotate_left
  · intro w'
    go_simp
    with_reducible rfl
  rotate_left
  · (try simp only [Act.put, List.setIfInBounds_toArray, List.set_cons_zero, List.set_cons_succ, i64_w, i32_w])
    rfl
  refine pure_ (i := 2) (N := some 6) (v := ?_) (a' := ?_) #[true, true, true, false, false, false, false, false, false, false, false, false] rfl rfl (by kernel_rfl) (fun _ _ _ h => h) (Or.inl ⟨by rfl, ?_⟩) ?_ ?_
  rotate_left
  · intro w'
    go_simp
    with_reducible rfl
  rotate_left
  · (try simp only [Act.put, List.setIfInBounds_toArray, List.set_cons_zero, List.set_cons_succ, i64_w, i32_w])
    rfl
  refine pure_ (i := 3) (N := some 7) (v := ?_) (a' := ?_) #[true, true, true, true, false, false, false, false, false, false, false, false] rfl rfl (by kernel_rfl) (fun _ _ _ h => h) (Or.inl ⟨by rfl, ?_⟩) ?_ ?_
  rotate_left
  · intro w'
    go_simp
    with_reducible rfl
  rotate_left
  · (try simp only [Act.put, List.setIfInBounds_toArray, List.set_cons_zero, List.set_cons_succ, i64_w, i32_w])
    rfl
  refine pure_ (i := 4) (N := some 8) (v := ?_) (a' := ?_) #[true, true, true, true, true, false, false, false, false, false, false, false] rfl rfl (by kernel_rfl) (fun _ _ _ h => h) (Or.inl ⟨by rfl, ?_⟩) ?_ ?_
  rotate_left
  · intro w'
    go_simp
    with_reducible rfl
  rotate_left
  · (try simp only [Act.put, List.setIfInBounds_toArray, List.set_cons_zero, List.set_cons_succ, i64_w, i32_w])
    rfl
  refine pure_ (i := 5) (N := some 9) (v := ?_) (a' := ?_) #[true, true, true, true, true, true, false, false, false, false, false, false] rfl rfl (by kernel_rfl) (fun _ _ _ h => h) (Or.inl ⟨by rfl, ?_⟩) ?_ ?_
  rotate_left
  · intro w'
    go_simp
    with_reducible rfl
  rotate_left
  · (try simp only [Act.put, List.setIfInBounds_toArray, List.set_cons_zero, List.set_cons_succ, i64_w, i32_w])
    rfl
  refine take_ (i := 6) (N := some 10) (v := ?_) (a' := ?_) #[true, true, true, true, true, true, true, false, false, false, false, false] rfl rfl (by kernel_rfl) (fun _ _ _ h => h) (Or.inl ⟨by rfl, ?_⟩) hHeld ?_ ?_
  rotate_left
  · rintro w' hS
    obtain ⟨L', hS⟩ := hS
    have c69 : w'.cell? ⟨g, 69, none⟩ = some (.slice Ac code.length cc) := mcellT hs hS 0 rfl 0
    go_simp
    with_reducible rfl
  rotate_left
  · (try simp only [Act.put, List.setIfInBounds_toArray, List.set_cons_zero, List.set_cons_succ, i64_w, i32_w])
    rfl
  refine pure_ (i := 7) (N := some 11) (v := ?_) (a' := ?_) #[true, true, true, true, true, true, true, true, false, false, false, false] rfl rfl (by kernel_rfl) (fun _ _ _ h => h) (Or.inl ⟨by rfl, ?_⟩) ?_ ?_
  rotate_left
  · intro w'
    go_simp
    with_reducible rfl
  rotate_left
  · (try simp only [Act.put, List.setIfInBounds_toArray, List.set_cons_zero, List.set_cons_succ, i64_w, i32_w])
    rfl
  refine pure_ (i := 8) (N := some 12) (v := ?_) (a' := ?_) #[true, true, true, true, true, true, true, true, true, false, false, false] rfl rfl (by kernel_rfl) (fun _ _ _ h => h) (Or.inl ⟨by rfl, ?_⟩) ?_ ?_
  rotate_left
  · intro w'
    go_simp
    with_reducible rfl
  rotate_left
  · (try simp only [Act.put, List.setIfInBounds_toArray, List.set_cons_zero, List.set_cons_succ, i64_w, i32_w])
    rfl
  refine pure_ (i := 9) (N := some 13) (v := ?_) (a' := ?_) #[true, true, true, true, true, true, true, true, true, true, false, false] rfl rfl (by kernel_rfl) (fun _ _ _ h => h) (Or.inl ⟨by rfl, ?_⟩) ?_ ?_
  rotate_left
  · intro w'
    go_simp
    with_reducible rfl
  rotate_left
  · (try simp only [Act.put, List.setIfInBounds_toArray, List.set_cons_zero, List.set_cons_succ, i64_w, i32_w])
    rfl
  refine last_ (i := 10) (N := some 14) #[true, true, true, true, true, true, true, true, true, true, true, false] rfl rfl (by kernel_rfl) (by decide) (fun K hK => ?_)
  refine goes_ Try.func19 (by kernel_rfl) rfl #[.pointer (some ⟨g, 0, none⟩), .slice Ac code.length cc, .iface 96 (.agg #[.pointer (some ⟨g, 0, none⟩), .bool false])] (by rfl) rfl rfl (by (try simp only [List.map_toArray, List.map_cons, List.map_nil]); first | done | rfl) ?_
  have HStep := step_calls (c := cc) (sMem g A n c (.slice Ac code.length cc) vs vt win X.left false) (L := SVD vs X.saved X.n :: L) (fun w h => hC w h.tail) hfit (show X.buf.length ≤ 1000000 by omega) hs (m := ⟨X.mem, X.buf⟩) (vClose (m := ⟨X.mem, X.buf⟩) hs HS)
  refine HStep.mono ?_
  clear HS HStep
  rintro e w ⟨v, rfl, HS⟩
  replace HS := stepped (X := X) (k := false) (code := code) rfl (stepF_regs _ code X.s _ hs) HS
  obtain ⟨Av, cv, rfl⟩ := HS.slice 0 rfl
  refine ⟨_, rfl, ?_⟩
  refine hK.out _ _ ?_
  clear hK K
  refine norm_ (a' := ?_) ?_ ?_
  rotate_left
  · show Act.put _ _ _ = _
    (try simp only [Act.put, List.setIfInBounds_toArray, List.set_cons_zero, List.set_cons_succ, i64_w, i32_w])
    rfl
  refine pure_ (i := 11) (N := some 3) (v := ?_) (a' := ?_) #[true, true, true, true, true, true, true, true, true, true, true, true] rfl rfl (by kernel_rfl) (fun _ _ _ h => h) (Or.inl ⟨by rfl, ?_⟩) ?_ ?_
  rotate_left
  · intro w'
    go_simp
    with_reducible rfl
  rotate_left
  · (try simp only [Act.put, List.setIfInBounds_toArray, List.set_cons_zero, List.set_cons_succ, i64_w, i32_w])
    rfl
  refine done_ (by kernel_rfl) ?_
  clear hHeld
  rw [← HXO.out.1] at HS
  rw [← HXO.out.2] at HS ⊢
  clear HXO hs vb vs
  have HM := mchC HS 1 rfl
  have c65 := (HM.2.1 65 (by decide)).trans (stL_ended HM.1)
  rw [H12.out.1] at c65
  clear HM
  have HG := Aside0.mk (guesses_calls HXB.out.2.1 HS.swap)
  rw [H12.out.2] at HG
  obtain ⟨p, hp⟩ := Option.isSome_iff_exists.1 H12.out.2
  have HP := Aside0.mk hp
  clear hp
  go_upto_region 3 with ((try (refine gate_guard (by rfl) ?_; dsimp only)); go_at_call 28; refine HG.out.mono ?_; rintro e w_ ⟨rfl, HS_⟩; clear HS HG; have HS := HS_; clear HS_)
  go_wp2_with (first | (go_at_call 29; refine (back_calls HP.out HS).mono ?_; rintro e w_ ⟨v, rfl, HS_⟩; clear HS; have HS := HS_; clear HS_; obtain ⟨Aw, cw, rfl⟩ := HS.slice 0 rfl) | ((with_reducible refine gate_builtin (b := .append) (xs := #[.tmp 25, .tmp 27]) rfl ?_); go_must (refine ev_append k66 HS 2 (.tmp 25) (.tmp 27) 31 66 (.agg #[.int .i64 0, .int .i64 0, .int .i64 0]) 24 rfl (HS.C 0 rfl) (fun _ _ h => h) rfl rfl rfl rfl Try.underlying31 info66 rfl (by decide) (by omega) ((by have := HXB.out.2.2; simp; omega)) ?_); clear HS; intro vo w HS))

  go_ret
  exact ⟨_, rfl, (HS.tail.swap)⟩

set_option maxRecDepth 100000 in
set_option maxHeartbeats 2000000 in
theorem honest_end {X : SM} (hC : ∀ w, Sat W0 w L → Kd.C k56 w Ac code.length code) (hfit : ∀ i ∈ code, Fit i) (hn : X.n ≤ 900000) (hb : X.buf.length ≤ 900000) (HS : Sat W0 w (mch g A n c (.slice Ac code.length cc) vt win X :: L)) (h1 : (steppedF false code X).s.ended = true) (h2 : X.saved.isSome = false) :
    Calls Try.prog 30 #[.pointer (some ⟨g, 0, none⟩)] w fun e w' => ∃ v, e = .returned v ∧ Sat W0 w' (row k66 66 v (stepOut false code X) :: mch g A n c (.slice Ac code.length cc) vt win (commitF 0 (steppedF false code X)) :: L) := by
  have hlen := stepF_len (vF false) code X.s ⟨X.mem, X.buf⟩
  obtain ⟨vb, vs, hs, HS⟩ := mOpen HS
  have hXb : (steppedF false code X).buf.length ≤ 1000000 := by have := (vstep_keeps false code X.s ⟨X.mem, X.buf⟩).2; unfold steppedF; dsimp only at this ⊢; omega
  have hXn : (steppedF false code X).n ≤ 1000000 := by show X.n ≤ 1000000; omega
  have h2' : (steppedF false code X).saved.isSome = false := h2
  obtain ⟨X1, hX1⟩ : ∃ X1, X1 = steppedF false code X := ⟨_, rfl⟩
  obtain ⟨out, ho⟩ : ∃ out, out = stepOut false code X := ⟨_, rfl⟩
  rw [← hX1] at hXb hXn h1 h2' ⊢
  rw [← ho]
  have hol : out.length ≤ 3 := by rw [ho]; exact hlen
  have HXO := Aside0.mk (And.intro hX1 ho)
  have HXB := Aside0.mk (And.intro hXb (And.intro hXn hol))
  clear hX1 ho hlen hXb hXn hol h2
  have H12 := Aside0.mk (And.intro h1 h2')
  clear h1 h2'
  go_enter Try.func30, Try.ntmps30
  go_upto_region 1 with (fail)
  refine start_ (n := 12) (S := fun w' => ∃ L', Sat W0 w' (MB g X.s (.slice Ac code.length cc) (.slice A n c) vb vs vt win X.left :: L')) (ds := [10]) #[false, false, false, false, false, false, false, false, false, false, false, false] (by kernel_rfl) rfl rfl ⟨_, HS.drew⟩ (fun hHeld => ?_)
  replace HS := HS.drew
  generalize World.drew w = w at HS hHeld ⊢
  refine pure_ (i := 0) (N := some 4) (v := ?_) (a' := ?_) #[true, false, false, false, false, false, false, false, false, false, false, false] rfl rfl (by kernel_rfl) (fun _ _ _ h => h) (Or.inl ⟨by rfl, ?_⟩) ?_ ?_
  rotate_left
  · intro w'
    go_simp
    with_reducible rfl
  rotate_left
  · (try simp only [Act.put, List.setIfInBounds_toArray, List.set_cons_zero, List.set_cons_succ, i64_w, i32_w])
    rfl
  refine pure_ (i := 1) (N := some 5) (v := ?_) (a' := ?_) #[true, true, false, false, false, false, false, false, false, false, false, false] rfl rfl (by kernel_rfl) (fun _ _ _ h => h) (Or.inl ⟨by rfl, ?_⟩) ?_ ?_
  rotate_left
  · intro w'
    go_simp
    with_reducible rfl
  rotate_left
  · (try simp only [Act.put, List.setIfInBounds_toArray, List.set_cons_zero, List.set_cons_succ, i64_w, i32_w])
    rfl
  refine pure_ (i := 2) (N := some 6) (v := ?_) (a' := ?_) #[true, true, true, false, false, false, false, false, false, false, false, false] rfl rfl (by kernel_rfl) (fun _ _ _ h => h) (Or.inl ⟨by rfl, ?_⟩) ?_ ?_
  rotate_left
  · intro w'
    go_simp
    with_reducible rfl
  rotate_left
  · (try simp only [Act.put, List.setIfInBounds_toArray, List.set_cons_zero, List.set_cons_succ, i64_w, i32_w])
    rfl
  refine pure_ (i := 3) (N := some 7) (v := ?_) (a' := ?_) #[true, true, true, true, false, false, false, false, false, false, false, false] rfl rfl (by kernel_rfl) (fun _ _ _ h => h) (Or.inl ⟨by rfl, ?_⟩) ?_ ?_
  rotate_left
  · intro w'
    go_simp
    with_reducible rfl
  rotate_left
  · (try simp only [Act.put, List.setIfInBounds_toArray, List.set_cons_zero, List.set_cons_succ, i64_w, i32_w])
    rfl
  refine pure_ (i := 4) (N := some 8) (v := ?_) (a' := ?_) #[true, true, true, true, true, false, false, false, false, false, false, false] rfl rfl (by kernel_rfl) (fun _ _ _ h => h) (Or.inl ⟨by rfl, ?_⟩) ?_ ?_
  rotate_left
  · intro w'
    go_simp
    with_reducible rfl
  rotate_left
  · (try simp only [Act.put, List.setIfInBounds_toArray, List.set_cons_zero, List.set_cons_succ, i64_w, i32_w])
    rfl
  refine pure_ (i := 5) (N := some 9) (v := ?_) (a' := ?_) #[true, true, true, true, true, true, false, false, false, false, false, false] rfl rfl (by kernel_rfl) (fun _ _ _ h => h) (Or.inl ⟨by rfl, ?_⟩) ?_ ?_
  rotate_left
  · intro w'
    go_simp
    with_reducible rfl
  rotate_left
  · (try simp only [Act.put, List.setIfInBounds_toArray, List.set_cons_zero, List.set_cons_succ, i64_w, i32_w])
    rfl
  refine take_ (i := 6) (N := some 10) (v := ?_) (a' := ?_) #[true, true, true, true, true, true, true, false, false, false, false, false] rfl rfl (by kernel_rfl) (fun _ _ _ h => h) (Or.inl ⟨by rfl, ?_⟩) hHeld ?_ ?_
  rotate_left
  · rintro w' hS
    obtain ⟨L', hS⟩ := hS
    have c69 : w'.cell? ⟨g, 69, none⟩ = some (.slice Ac code.length cc) := mcellT hs hS 0 rfl 0
    go_simp
    with_reducible rfl
  rotate_left
  · (try simp only [Act.put, List.setIfInBounds_toArray, List.set_cons_zero, List.set_cons_succ, i64_w, i32_w])
    rfl
  refine pure_ (i := 7) (N := some 11) (v := ?_) (a' := ?_) #[true, true, true, true, true, true, true, true, false, false, false, false] rfl rfl (by kernel_rfl) (fun _ _ _ h => h) (Or.inl ⟨by rfl, ?_⟩) ?_ ?_
  rotate_left
  · intro w'
    go_simp
    with_reducible rfl
  rotate_left
  · (try simp only [Act.put, List.setIfInBounds_toArray, List.set_cons_zero, List.set_cons_succ, i64_w, i32_w])
    rfl
  refine pure_ (i := 8) (N := some 12) (v := ?_) (a' := ?_) #[true, true, true, true, true, true, true, true, true, false, false, false] rfl rfl (by kernel_rfl) (fun _ _ _ h => h) (Or.inl ⟨by rfl, ?_⟩) ?_ ?_
  rotate_left
  · intro w'
    go_simp
    with_reducible rfl
  rotate_left
  · (try simp only [Act.put, List.setIfInBounds_toArray, List.set_cons_zero, List.set_cons_succ, i64_w, i32_w])
    rfl
  refine pure_ (i := 9) (N := some 13) (v := ?_) (a' := ?_) #[true, true, true, true, true, true, true, true, true, true, false, false] rfl rfl (by kernel_rfl) (fun _ _ _ h => h) (Or.inl ⟨by rfl, ?_⟩) ?_ ?_
  rotate_left
  · intro w'
    go_simp
    with_reducible rfl
  rotate_left
  · (try simp only [Act.put, List.setIfInBounds_toArray, List.set_cons_zero, List.set_cons_succ, i64_w, i32_w])
    rfl
  refine last_ (i := 10) (N := some 14) #[true, true, true, true, true, true, true, true, true, true, true, false] rfl rfl (by kernel_rfl) (by decide) (fun K hK => ?_)
  refine goes_ Try.func19 (by kernel_rfl) rfl #[.pointer (some ⟨g, 0, none⟩), .slice Ac code.length cc, .iface 96 (.agg #[.pointer (some ⟨g, 0, none⟩), .bool false])] (by rfl) rfl rfl (by (try simp only [List.map_toArray, List.map_cons, List.map_nil]); first | done | rfl) ?_
  have HStep := step_calls (c := cc) (sMem g A n c (.slice Ac code.length cc) vs vt win X.left false) (L := SVD vs X.saved X.n :: L) (fun w h => hC w h.tail) hfit (show X.buf.length ≤ 1000000 by omega) hs (m := ⟨X.mem, X.buf⟩) (vClose (m := ⟨X.mem, X.buf⟩) hs HS)
  refine HStep.mono ?_
  clear HS HStep
  rintro e w ⟨v, rfl, HS⟩
  replace HS := stepped (X := X) (k := false) (code := code) rfl (stepF_regs _ code X.s _ hs) HS
  obtain ⟨Av, cv, rfl⟩ := HS.slice 0 rfl
  refine ⟨_, rfl, ?_⟩
  refine hK.out _ _ ?_
  clear hK K
  refine norm_ (a' := ?_) ?_ ?_
  rotate_left
  · show Act.put _ _ _ = _
    (try simp only [Act.put, List.setIfInBounds_toArray, List.set_cons_zero, List.set_cons_succ, i64_w, i32_w])
    rfl
  refine pure_ (i := 11) (N := some 3) (v := ?_) (a' := ?_) #[true, true, true, true, true, true, true, true, true, true, true, true] rfl rfl (by kernel_rfl) (fun _ _ _ h => h) (Or.inl ⟨by rfl, ?_⟩) ?_ ?_
  rotate_left
  · intro w'
    go_simp
    with_reducible rfl
  rotate_left
  · (try simp only [Act.put, List.setIfInBounds_toArray, List.set_cons_zero, List.set_cons_succ, i64_w, i32_w])
    rfl
  refine done_ (by kernel_rfl) ?_
  clear hHeld
  rw [← HXO.out.1] at HS
  rw [← HXO.out.2] at HS ⊢
  clear HXO hs vb vs
  have HM := mchC HS 1 rfl
  have c65 := (HM.2.1 65 (by decide)).trans (stL_ended HM.1)
  rw [H12.out.1] at c65
  clear HM
  have HG := Aside0.mk (guesses_calls HXB.out.2.1 HS.swap)
  rw [H12.out.2] at HG
  go_upto_region 4 with ((try (refine gate_guard (by rfl) ?_; dsimp only)); go_at_call 28; refine HG.out.mono ?_; rintro e w_ ⟨rfl, HS_⟩; clear HS HG; have HS := HS_; clear HS_)
  have HM := mchC HS 0 rfl
  have c65 := (HM.2.1 65 (by decide)).trans (stL_ended HM.1)
  rw [H12.out.1] at c65
  clear HM
  go_wp2_with (first | (go_at_call 31; refine (commit_calls 0 (by decide) HXB.out.1 HS).mono ?_; rintro e w_ ⟨rfl, HS_⟩; clear HS; have HS := HS_; clear HS_))
  go_ret
  exact ⟨_, rfl, HS.swap⟩

set_option maxRecDepth 100000 in
set_option maxHeartbeats 2000000 in
theorem honest_on {X : SM} (hC : ∀ w, Sat W0 w L → Kd.C k56 w Ac code.length code) (hfit : ∀ i ∈ code, Fit i) (hn : X.n ≤ 900000) (hb : X.buf.length ≤ 900000) (HS : Sat W0 w (mch g A n c (.slice Ac code.length cc) vt win X :: L)) (h1 : (steppedF false code X).s.ended = false) (h2 : X.saved.isSome = true) :
    Calls Try.prog 30 #[.pointer (some ⟨g, 0, none⟩)] w fun e w' => ∃ v, e = .returned v ∧ Sat W0 w' (row k66 66 v (stepOut false code X) :: mch g A n c (.slice Ac code.length cc) vt win (steppedF false code X) :: L) := by
  have hlen := stepF_len (vF false) code X.s ⟨X.mem, X.buf⟩
  obtain ⟨vb, vs, hs, HS⟩ := mOpen HS
  have hXb : (steppedF false code X).buf.length ≤ 1000000 := by have := (vstep_keeps false code X.s ⟨X.mem, X.buf⟩).2; unfold steppedF; dsimp only at this ⊢; omega
  have hXn : (steppedF false code X).n ≤ 1000000 := by show X.n ≤ 1000000; omega
  have h2' : (steppedF false code X).saved.isSome = true := h2
  obtain ⟨X1, hX1⟩ : ∃ X1, X1 = steppedF false code X := ⟨_, rfl⟩
  obtain ⟨out, ho⟩ : ∃ out, out = stepOut false code X := ⟨_, rfl⟩
  rw [← hX1] at hXb hXn h1 h2' ⊢
  rw [← ho]
  have hol : out.length ≤ 3 := by rw [ho]; exact hlen
  have HXO := Aside0.mk (And.intro hX1 ho)
  have HXB := Aside0.mk (And.intro hXb (And.intro hXn hol))
  clear hX1 ho hlen hXb hXn hol h2
  have H12 := Aside0.mk (And.intro h1 h2')
  clear h1 h2'
  go_enter Try.func30, Try.ntmps30
  go_upto_region 1 with (fail)
  refine start_ (n := 12) (S := fun w' => ∃ L', Sat W0 w' (MB g X.s (.slice Ac code.length cc) (.slice A n c) vb vs vt win X.left :: L')) (ds := [10]) #[false, false, false, false, false, false, false, false, false, false, false, false] (by kernel_rfl) rfl rfl ⟨_, HS.drew⟩ (fun hHeld => ?_)
  replace HS := HS.drew
  generalize World.drew w = w at HS hHeld ⊢
  refine pure_ (i := 0) (N := some 4) (v := ?_) (a' := ?_) #[true, false, false, false, false, false, false, false, false, false, false, false] rfl rfl (by kernel_rfl) (fun _ _ _ h => h) (Or.inl ⟨by rfl, ?_⟩) ?_ ?_
  rotate_left
  · intro w'
    go_simp
    with_reducible rfl
  rotate_left
  · (try simp only [Act.put, List.setIfInBounds_toArray, List.set_cons_zero, List.set_cons_succ, i64_w, i32_w])
    rfl
  refine pure_ (i := 1) (N := some 5) (v := ?_) (a' := ?_) #[true, true, false, false, false, false, false, false, false, false, false, false] rfl rfl (by kernel_rfl) (fun _ _ _ h => h) (Or.inl ⟨by rfl, ?_⟩) ?_ ?_
  rotate_left
  · intro w'
    go_simp
    with_reducible rfl
  rotate_left
  · (try simp only [Act.put, List.setIfInBounds_toArray, List.set_cons_zero, List.set_cons_succ, i64_w, i32_w])
    rfl
  refine pure_ (i := 2) (N := some 6) (v := ?_) (a' := ?_) #[true, true, true, false, false, false, false, false, false, false, false, false] rfl rfl (by kernel_rfl) (fun _ _ _ h => h) (Or.inl ⟨by rfl, ?_⟩) ?_ ?_
  rotate_left
  · intro w'
    go_simp
    with_reducible rfl
  rotate_left
  · (try simp only [Act.put, List.setIfInBounds_toArray, List.set_cons_zero, List.set_cons_succ, i64_w, i32_w])
    rfl
  refine pure_ (i := 3) (N := some 7) (v := ?_) (a' := ?_) #[true, true, true, true, false, false, false, false, false, false, false, false] rfl rfl (by kernel_rfl) (fun _ _ _ h => h) (Or.inl ⟨by rfl, ?_⟩) ?_ ?_
  rotate_left
  · intro w'
    go_simp
    with_reducible rfl
  rotate_left
  · (try simp only [Act.put, List.setIfInBounds_toArray, List.set_cons_zero, List.set_cons_succ, i64_w, i32_w])
    rfl
  refine pure_ (i := 4) (N := some 8) (v := ?_) (a' := ?_) #[true, true, true, true, true, false, false, false, false, false, false, false] rfl rfl (by kernel_rfl) (fun _ _ _ h => h) (Or.inl ⟨by rfl, ?_⟩) ?_ ?_
  rotate_left
  · intro w'
    go_simp
    with_reducible rfl
  rotate_left
  · (try simp only [Act.put, List.setIfInBounds_toArray, List.set_cons_zero, List.set_cons_succ, i64_w, i32_w])
    rfl
  refine pure_ (i := 5) (N := some 9) (v := ?_) (a' := ?_) #[true, true, true, true, true, true, false, false, false, false, false, false] rfl rfl (by kernel_rfl) (fun _ _ _ h => h) (Or.inl ⟨by rfl, ?_⟩) ?_ ?_
  rotate_left
  · intro w'
    go_simp
    with_reducible rfl
  rotate_left
  · (try simp only [Act.put, List.setIfInBounds_toArray, List.set_cons_zero, List.set_cons_succ, i64_w, i32_w])
    rfl
  refine take_ (i := 6) (N := some 10) (v := ?_) (a' := ?_) #[true, true, true, true, true, true, true, false, false, false, false, false] rfl rfl (by kernel_rfl) (fun _ _ _ h => h) (Or.inl ⟨by rfl, ?_⟩) hHeld ?_ ?_
  rotate_left
  · rintro w' hS
    obtain ⟨L', hS⟩ := hS
    have c69 : w'.cell? ⟨g, 69, none⟩ = some (.slice Ac code.length cc) := mcellT hs hS 0 rfl 0
    go_simp
    with_reducible rfl
  rotate_left
  · (try simp only [Act.put, List.setIfInBounds_toArray, List.set_cons_zero, List.set_cons_succ, i64_w, i32_w])
    rfl
  refine pure_ (i := 7) (N := some 11) (v := ?_) (a' := ?_) #[true, true, true, true, true, true, true, true, false, false, false, false] rfl rfl (by kernel_rfl) (fun _ _ _ h => h) (Or.inl ⟨by rfl, ?_⟩) ?_ ?_
  rotate_left
  · intro w'
    go_simp
    with_reducible rfl
  rotate_left
  · (try simp only [Act.put, List.setIfInBounds_toArray, List.set_cons_zero, List.set_cons_succ, i64_w, i32_w])
    rfl
  refine pure_ (i := 8) (N := some 12) (v := ?_) (a' := ?_) #[true, true, true, true, true, true, true, true, true, false, false, false] rfl rfl (by kernel_rfl) (fun _ _ _ h => h) (Or.inl ⟨by rfl, ?_⟩) ?_ ?_
  rotate_left
  · intro w'
    go_simp
    with_reducible rfl
  rotate_left
  · (try simp only [Act.put, List.setIfInBounds_toArray, List.set_cons_zero, List.set_cons_succ, i64_w, i32_w])
    rfl
  refine pure_ (i := 9) (N := some 13) (v := ?_) (a' := ?_) #[true, true, true, true, true, true, true, true, true, true, false, false] rfl rfl (by kernel_rfl) (fun _ _ _ h => h) (Or.inl ⟨by rfl, ?_⟩) ?_ ?_
  rotate_left
  · intro w'
    go_simp
    with_reducible rfl
  rotate_left
  · (try simp only [Act.put, List.setIfInBounds_toArray, List.set_cons_zero, List.set_cons_succ, i64_w, i32_w])
    rfl
  refine last_ (i := 10) (N := some 14) #[true, true, true, true, true, true, true, true, true, true, true, false] rfl rfl (by kernel_rfl) (by decide) (fun K hK => ?_)
  refine goes_ Try.func19 (by kernel_rfl) rfl #[.pointer (some ⟨g, 0, none⟩), .slice Ac code.length cc, .iface 96 (.agg #[.pointer (some ⟨g, 0, none⟩), .bool false])] (by rfl) rfl rfl (by (try simp only [List.map_toArray, List.map_cons, List.map_nil]); first | done | rfl) ?_
  have HStep := step_calls (c := cc) (sMem g A n c (.slice Ac code.length cc) vs vt win X.left false) (L := SVD vs X.saved X.n :: L) (fun w h => hC w h.tail) hfit (show X.buf.length ≤ 1000000 by omega) hs (m := ⟨X.mem, X.buf⟩) (vClose (m := ⟨X.mem, X.buf⟩) hs HS)
  refine HStep.mono ?_
  clear HS HStep
  rintro e w ⟨v, rfl, HS⟩
  replace HS := stepped (X := X) (k := false) (code := code) rfl (stepF_regs _ code X.s _ hs) HS
  obtain ⟨Av, cv, rfl⟩ := HS.slice 0 rfl
  refine ⟨_, rfl, ?_⟩
  refine hK.out _ _ ?_
  clear hK K
  refine norm_ (a' := ?_) ?_ ?_
  rotate_left
  · show Act.put _ _ _ = _
    (try simp only [Act.put, List.setIfInBounds_toArray, List.set_cons_zero, List.set_cons_succ, i64_w, i32_w])
    rfl
  refine pure_ (i := 11) (N := some 3) (v := ?_) (a' := ?_) #[true, true, true, true, true, true, true, true, true, true, true, true] rfl rfl (by kernel_rfl) (fun _ _ _ h => h) (Or.inl ⟨by rfl, ?_⟩) ?_ ?_
  rotate_left
  · intro w'
    go_simp
    with_reducible rfl
  rotate_left
  · (try simp only [Act.put, List.setIfInBounds_toArray, List.set_cons_zero, List.set_cons_succ, i64_w, i32_w])
    rfl
  refine done_ (by kernel_rfl) ?_
  clear hHeld
  rw [← HXO.out.1] at HS
  rw [← HXO.out.2] at HS ⊢
  clear HXO hs vb vs
  have HM := mchC HS 1 rfl
  have c65 := (HM.2.1 65 (by decide)).trans (stL_ended HM.1)
  rw [H12.out.1] at c65
  clear HM
  have HG := Aside0.mk (guesses_calls HXB.out.2.1 HS.swap)
  rw [H12.out.2] at HG
  go_wp2_with ((try (refine gate_guard (by rfl) ?_; dsimp only)); go_at_call 28; refine HG.out.mono ?_; rintro e w_ ⟨rfl, HS_⟩; clear HS HG; have HS := HS_; clear HS_)
  go_ret
  exact ⟨_, rfl, HS.swap⟩

set_option maxRecDepth 100000 in
set_option maxHeartbeats 2000000 in
theorem honest_plain {X : SM} (hC : ∀ w, Sat W0 w L → Kd.C k56 w Ac code.length code) (hfit : ∀ i ∈ code, Fit i) (hn : X.n ≤ 900000) (hb : X.buf.length ≤ 900000) (HS : Sat W0 w (mch g A n c (.slice Ac code.length cc) vt win X :: L)) (h1 : (steppedF false code X).s.ended = false) (h2 : X.saved.isSome = false) :
    Calls Try.prog 30 #[.pointer (some ⟨g, 0, none⟩)] w fun e w' => ∃ v, e = .returned v ∧ Sat W0 w' (row k66 66 v (stepOut false code X) :: mch g A n c (.slice Ac code.length cc) vt win (commitF 8 (steppedF false code X)) :: L) := by
  have hlen := stepF_len (vF false) code X.s ⟨X.mem, X.buf⟩
  obtain ⟨vb, vs, hs, HS⟩ := mOpen HS
  have hXb : (steppedF false code X).buf.length ≤ 1000000 := by have := (vstep_keeps false code X.s ⟨X.mem, X.buf⟩).2; unfold steppedF; dsimp only at this ⊢; omega
  have hXn : (steppedF false code X).n ≤ 1000000 := by show X.n ≤ 1000000; omega
  have h2' : (steppedF false code X).saved.isSome = false := h2
  obtain ⟨X1, hX1⟩ : ∃ X1, X1 = steppedF false code X := ⟨_, rfl⟩
  obtain ⟨out, ho⟩ : ∃ out, out = stepOut false code X := ⟨_, rfl⟩
  rw [← hX1] at hXb hXn h1 h2' ⊢
  rw [← ho]
  have hol : out.length ≤ 3 := by rw [ho]; exact hlen
  have HXO := Aside0.mk (And.intro hX1 ho)
  have HXB := Aside0.mk (And.intro hXb (And.intro hXn hol))
  clear hX1 ho hlen hXb hXn hol h2
  have H12 := Aside0.mk (And.intro h1 h2')
  clear h1 h2'
  go_enter Try.func30, Try.ntmps30
  go_upto_region 1 with (fail)
  refine start_ (n := 12) (S := fun w' => ∃ L', Sat W0 w' (MB g X.s (.slice Ac code.length cc) (.slice A n c) vb vs vt win X.left :: L')) (ds := [10]) #[false, false, false, false, false, false, false, false, false, false, false, false] (by kernel_rfl) rfl rfl ⟨_, HS.drew⟩ (fun hHeld => ?_)
  replace HS := HS.drew
  generalize World.drew w = w at HS hHeld ⊢
  refine pure_ (i := 0) (N := some 4) (v := ?_) (a' := ?_) #[true, false, false, false, false, false, false, false, false, false, false, false] rfl rfl (by kernel_rfl) (fun _ _ _ h => h) (Or.inl ⟨by rfl, ?_⟩) ?_ ?_
  rotate_left
  · intro w'
    go_simp
    with_reducible rfl
  rotate_left
  · (try simp only [Act.put, List.setIfInBounds_toArray, List.set_cons_zero, List.set_cons_succ, i64_w, i32_w])
    rfl
  refine pure_ (i := 1) (N := some 5) (v := ?_) (a' := ?_) #[true, true, false, false, false, false, false, false, false, false, false, false] rfl rfl (by kernel_rfl) (fun _ _ _ h => h) (Or.inl ⟨by rfl, ?_⟩) ?_ ?_
  rotate_left
  · intro w'
    go_simp
    with_reducible rfl
  rotate_left
  · (try simp only [Act.put, List.setIfInBounds_toArray, List.set_cons_zero, List.set_cons_succ, i64_w, i32_w])
    rfl
  refine pure_ (i := 2) (N := some 6) (v := ?_) (a' := ?_) #[true, true, true, false, false, false, false, false, false, false, false, false] rfl rfl (by kernel_rfl) (fun _ _ _ h => h) (Or.inl ⟨by rfl, ?_⟩) ?_ ?_
  rotate_left
  · intro w'
    go_simp
    with_reducible rfl
  rotate_left
  · (try simp only [Act.put, List.setIfInBounds_toArray, List.set_cons_zero, List.set_cons_succ, i64_w, i32_w])
    rfl
  refine pure_ (i := 3) (N := some 7) (v := ?_) (a' := ?_) #[true, true, true, true, false, false, false, false, false, false, false, false] rfl rfl (by kernel_rfl) (fun _ _ _ h => h) (Or.inl ⟨by rfl, ?_⟩) ?_ ?_
  rotate_left
  · intro w'
    go_simp
    with_reducible rfl
  rotate_left
  · (try simp only [Act.put, List.setIfInBounds_toArray, List.set_cons_zero, List.set_cons_succ, i64_w, i32_w])
    rfl
  refine pure_ (i := 4) (N := some 8) (v := ?_) (a' := ?_) #[true, true, true, true, true, false, false, false, false, false, false, false] rfl rfl (by kernel_rfl) (fun _ _ _ h => h) (Or.inl ⟨by rfl, ?_⟩) ?_ ?_
  rotate_left
  · intro w'
    go_simp
    with_reducible rfl
  rotate_left
  · (try simp only [Act.put, List.setIfInBounds_toArray, List.set_cons_zero, List.set_cons_succ, i64_w, i32_w])
    rfl
  refine pure_ (i := 5) (N := some 9) (v := ?_) (a' := ?_) #[true, true, true, true, true, true, false, false, false, false, false, false] rfl rfl (by kernel_rfl) (fun _ _ _ h => h) (Or.inl ⟨by rfl, ?_⟩) ?_ ?_
  rotate_left
  · intro w'
    go_simp
    with_reducible rfl
  rotate_left
  · (try simp only [Act.put, List.setIfInBounds_toArray, List.set_cons_zero, List.set_cons_succ, i64_w, i32_w])
    rfl
  refine take_ (i := 6) (N := some 10) (v := ?_) (a' := ?_) #[true, true, true, true, true, true, true, false, false, false, false, false] rfl rfl (by kernel_rfl) (fun _ _ _ h => h) (Or.inl ⟨by rfl, ?_⟩) hHeld ?_ ?_
  rotate_left
  · rintro w' hS
    obtain ⟨L', hS⟩ := hS
    have c69 : w'.cell? ⟨g, 69, none⟩ = some (.slice Ac code.length cc) := mcellT hs hS 0 rfl 0
    go_simp
    with_reducible rfl
  rotate_left
  · (try simp only [Act.put, List.setIfInBounds_toArray, List.set_cons_zero, List.set_cons_succ, i64_w, i32_w])
    rfl
  refine pure_ (i := 7) (N := some 11) (v := ?_) (a' := ?_) #[true, true, true, true, true, true, true, true, false, false, false, false] rfl rfl (by kernel_rfl) (fun _ _ _ h => h) (Or.inl ⟨by rfl, ?_⟩) ?_ ?_
  rotate_left
  · intro w'
    go_simp
    with_reducible rfl
  rotate_left
  · (try simp only [Act.put, List.setIfInBounds_toArray, List.set_cons_zero, List.set_cons_succ, i64_w, i32_w])
    rfl
  refine pure_ (i := 8) (N := some 12) (v := ?_) (a' := ?_) #[true, true, true, true, true, true, true, true, true, false, false, false] rfl rfl (by kernel_rfl) (fun _ _ _ h => h) (Or.inl ⟨by rfl, ?_⟩) ?_ ?_
  rotate_left
  · intro w'
    go_simp
    with_reducible rfl
  rotate_left
  · (try simp only [Act.put, List.setIfInBounds_toArray, List.set_cons_zero, List.set_cons_succ, i64_w, i32_w])
    rfl
  refine pure_ (i := 9) (N := some 13) (v := ?_) (a' := ?_) #[true, true, true, true, true, true, true, true, true, true, false, false] rfl rfl (by kernel_rfl) (fun _ _ _ h => h) (Or.inl ⟨by rfl, ?_⟩) ?_ ?_
  rotate_left
  · intro w'
    go_simp
    with_reducible rfl
  rotate_left
  · (try simp only [Act.put, List.setIfInBounds_toArray, List.set_cons_zero, List.set_cons_succ, i64_w, i32_w])
    rfl
  refine last_ (i := 10) (N := some 14) #[true, true, true, true, true, true, true, true, true, true, true, false] rfl rfl (by kernel_rfl) (by decide) (fun K hK => ?_)
  refine goes_ Try.func19 (by kernel_rfl) rfl #[.pointer (some ⟨g, 0, none⟩), .slice Ac code.length cc, .iface 96 (.agg #[.pointer (some ⟨g, 0, none⟩), .bool false])] (by rfl) rfl rfl (by (try simp only [List.map_toArray, List.map_cons, List.map_nil]); first | done | rfl) ?_
  have HStep := step_calls (c := cc) (sMem g A n c (.slice Ac code.length cc) vs vt win X.left false) (L := SVD vs X.saved X.n :: L) (fun w h => hC w h.tail) hfit (show X.buf.length ≤ 1000000 by omega) hs (m := ⟨X.mem, X.buf⟩) (vClose (m := ⟨X.mem, X.buf⟩) hs HS)
  refine HStep.mono ?_
  clear HS HStep
  rintro e w ⟨v, rfl, HS⟩
  replace HS := stepped (X := X) (k := false) (code := code) rfl (stepF_regs _ code X.s _ hs) HS
  obtain ⟨Av, cv, rfl⟩ := HS.slice 0 rfl
  refine ⟨_, rfl, ?_⟩
  refine hK.out _ _ ?_
  clear hK K
  refine norm_ (a' := ?_) ?_ ?_
  rotate_left
  · show Act.put _ _ _ = _
    (try simp only [Act.put, List.setIfInBounds_toArray, List.set_cons_zero, List.set_cons_succ, i64_w, i32_w])
    rfl
  refine pure_ (i := 11) (N := some 3) (v := ?_) (a' := ?_) #[true, true, true, true, true, true, true, true, true, true, true, true] rfl rfl (by kernel_rfl) (fun _ _ _ h => h) (Or.inl ⟨by rfl, ?_⟩) ?_ ?_
  rotate_left
  · intro w'
    go_simp
    with_reducible rfl
  rotate_left
  · (try simp only [Act.put, List.setIfInBounds_toArray, List.set_cons_zero, List.set_cons_succ, i64_w, i32_w])
    rfl
  refine done_ (by kernel_rfl) ?_
  clear hHeld
  rw [← HXO.out.1] at HS
  rw [← HXO.out.2] at HS ⊢
  clear HXO hs vb vs
  have HM := mchC HS 1 rfl
  have c65 := (HM.2.1 65 (by decide)).trans (stL_ended HM.1)
  rw [H12.out.1] at c65
  clear HM
  have HG := Aside0.mk (guesses_calls HXB.out.2.1 HS.swap)
  rw [H12.out.2] at HG
  go_wp2_with (first | ((try (refine gate_guard (by rfl) ?_; dsimp only)); go_at_call 28; refine HG.out.mono ?_; rintro e w_ ⟨rfl, HS_⟩; clear HS HG; have HS := HS_; clear HS_) | (go_at_call 31; refine (commit_calls 8 (by decide) HXB.out.1 HS).mono ?_; rintro e w_ ⟨rfl, HS_⟩; clear HS; have HS := HS_; clear HS_))
  go_ret
  exact ⟨_, rfl, HS.swap⟩

theorem honest_calls {X : SM} (hC : ∀ w, Sat W0 w L → Kd.C k56 w Ac code.length code) (hfit : ∀ i ∈ code, Fit i) (hn : X.n ≤ 900000) (hb : X.buf.length ≤ 900000) (HS : Sat W0 w (mch g A n c (.slice Ac code.length cc) vt win X :: L)) :
    Calls Try.prog 30 #[.pointer (some ⟨g, 0, none⟩)] w fun e w' => ∃ v, e = .returned v ∧ Sat W0 w' (row k66 66 v (honestF code X).2 :: mch g A n c (.slice Ac code.length cc) vt win (honestF code X).1 :: L) := by
  unfold honestF honestT
  rw [show (steppedF false code X).saved = X.saved from rfl]
  by_cases h1 : (steppedF false code X).s.ended = true
  · rw [if_pos h1]
    by_cases h2 : X.saved.isSome = true
    · rw [if_pos h2]; exact honest_back hC hfit hn hb HS h1 h2
    · rw [if_neg h2]; exact honest_end hC hfit hn hb HS h1 (by simpa using h2)
  · rw [if_neg h1]
    by_cases h2 : X.saved.isSome = true
    · rw [if_pos h2]; exact honest_on hC hfit hn hb HS (by simpa using h1) h2
    · rw [if_neg h2]; exact honest_plain hC hfit hn hb HS (by simpa using h1) (by simpa using h2)

end
end Go.Proofs.Ytkgoljbimblkhaa.B
