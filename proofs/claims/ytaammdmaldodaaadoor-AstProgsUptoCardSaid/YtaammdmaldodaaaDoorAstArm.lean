/- Stmt.Text, kind by kind, over what at, lines and Repeat give. -/
import Derived.Test.YtaammdmaldodaaaDoorAstAt
namespace Go.Proofs.YtaammdmaldodaaaDoor.B
open Go.RowKit Go.Proofs.YtaammdmaldodaaaDoor.Mine Go.Proofs.YtaammdmaldodaaaDoor.Sep Go.Proofs.YtaammdmaldodaaaDoorW.PrintWords Go.Proofs.YtaammdmaldodaaaDoorW.PrintLast Go.Proofs.YtaammdmaldodaaaDoorW.PrintMore
set_option linter.unusedVariables false
set_option linter.unusedSimpArgs false
section
variable {p0 p1 : Int} {nm : List UInt8} {A4 : Option Addr} {c4 : Nat} {A5 : Option Addr} {c5 : Nat} {A6 : Option Addr} {c6 : Nat} {es : List S31} {th el : List S38} {a b tt te tb : List UInt8} {D D1 K : Int}
set_option maxRecDepth 100000 in
set_option maxHeartbeats 2000000 in
theorem st_let (W : World) (hD : 0 ≤ D) (hw : wrap64 (D + 1) = D1) (HR : Aside0 (∀ w : World, Calls Tryd.prog 31 #[.string (bs [9]), .int .i64 D] w fun r w' => r = .returned (.string (bs tb)) ∧ Below w.heap.size w w')) (H0 : Aside0 (∀ w : World, Below W.heap.size W w → Calls Tryd.prog 32 #[.agg #[.int .i64 1, .int .i64 p0, .int .i64 p1, .string (bs nm), .slice A4 es.length c4, .slice A5 th.length c5, .slice A6 el.length c6], .int .i64 0] w fun r w' => r = .returned (.string (bs a)) ∧ Below w.heap.size w w')) (ltb : tb.length ≤ MX) (lnm : nm.length ≤ MX) (la : a.length ≤ MX)  :
    Calls Tryd.prog 16 #[.agg #[.int .i64 1, .int .i64 p0, .int .i64 p1, .string (bs nm), .slice A4 es.length c4, .slice A5 th.length c5, .slice A6 el.length c6], .int .i64 D] W fun r w' => r = .returned (.string (bs (tb ++ [108, 101, 116, 32] ++ nm ++ [32, 61, 32] ++ a ++ [59, 10]))) ∧ Below W.heap.size W w' := by
  have HS := Sat.start W
  go_enter Tryd.func16, Tryd.ntmps16
  go_upto_region 1 with ((with_reducible refine gate_dst (N := 2) rfl ?_); go_must (refine ev_box HS rfl (N := 2) rfl (cs := #[.int .i64 1, .int .i64 p0, .int .i64 p1, .string (bs nm), .slice A4 es.length c4, .slice A5 th.length c5, .slice A6 el.length c6]) (t := 38) ?hrun ?_); (case hrun => first | (go_simp; done) | (go_simp; rfl)); clear HS; intro gb w HS)
  have hmx : max (0 : Int) D = D := by omega
  go_upto_region 2 with (go_at_call 31; refine (HR.out _).mono ?_; rintro e w_ ⟨rfl, hb⟩; replace HS := HS.below hb; clear hb)
  have cb := HS.cell 0 rfl
  go_wp2
  refine start_ (n := 11) (S := fun w' => Sat W w' [blk gb 38 #[.int .i64 1, .int .i64 p0, .int .i64 p1, .string (bs nm), .slice A4 es.length c4, .slice A5 th.length c5, .slice A6 el.length c6], old W]) (ds := []) #[false, false, false, false, false, false, false, false, false, false, false] (by kernel_rfl) rfl rfl HS.drew (fun hHeld => ?_)
  replace HS := HS.drew
  generalize World.drew w = w at HS hHeld ⊢
  refine pure_ (i := 0) (N := some 14) (v := ?_) (a' := ?_) #[true, false, false, false, false, false, false, false, false, false, false] rfl rfl (by kernel_rfl) (fun _ _ _ h => h) (Or.inl ⟨by rfl, ?_⟩) ?_ ?_
  rotate_left
  · intro w'
    go_simp
    with_reducible rfl
  rotate_left
  · (try simp only [Act.put, List.setIfInBounds_toArray, List.set_cons_zero, List.set_cons_succ, i64_w, i32_w])
    rfl
  refine pure_ (i := 1) (N := some 15) (v := .string (bs ((tb) ++ ([108, 101, 116, 32])))) (a' := ?_) #[true, true, false, false, false, false, false, false, false, false, false] rfl rfl (by kernel_rfl) (fun _ _ _ h => h) (Or.inl ⟨by rfl, ?_⟩) ?_ ?_
  · intro w'
    exact run_cat (t := 9) (t' := 9) (p := tb) (q := [108, 101, 116, 32]) Tryd.underlying9 rfl rfl rfl (by (try simp only [List.length_append, List.length_cons, List.length_nil]); have := mx_le; have := bx_le; omega) w'
  rotate_left
  · (try simp only [Act.put, List.setIfInBounds_toArray, List.set_cons_zero, List.set_cons_succ, i64_w, i32_w])
    rfl
  refine pure_ (i := 2) (N := some 16) (v := ?_) (a' := ?_) #[true, true, true, false, false, false, false, false, false, false, false] rfl rfl (by kernel_rfl) (fun _ _ _ h => h) (Or.inl ⟨by rfl, ?_⟩) ?_ ?_
  rotate_left
  · intro w'
    go_simp
    with_reducible rfl
  rotate_left
  · (try simp only [Act.put, List.setIfInBounds_toArray, List.set_cons_zero, List.set_cons_succ, i64_w, i32_w])
    rfl
  refine take_ (i := 3) (N := some 17) (v := ?_) (a' := ?_) #[true, true, true, true, false, false, false, false, false, false, false] rfl rfl (by kernel_rfl) (fun _ _ _ h => h) (Or.inl ⟨by rfl, ?_⟩) hHeld ?_ ?_
  rotate_left
  · rintro w' hS
    have cb := hS.cell 0 rfl
    go_simp
    with_reducible rfl
  rotate_left
  · (try simp only [Act.put, List.setIfInBounds_toArray, List.set_cons_zero, List.set_cons_succ, i64_w, i32_w])
    rfl
  refine pure_ (i := 4) (N := some 18) (v := .string (bs ((tb ++ [108, 101, 116, 32]) ++ (nm)))) (a' := ?_) #[true, true, true, true, true, false, false, false, false, false, false] rfl rfl (by kernel_rfl) (fun _ _ _ h => h) (Or.inl ⟨by rfl, ?_⟩) ?_ ?_
  · intro w'
    exact run_cat (t := 9) (t' := 9) (p := tb ++ [108, 101, 116, 32]) (q := nm) Tryd.underlying9 rfl rfl rfl (by (try simp only [List.length_append, List.length_cons, List.length_nil]); have := mx_le; have := bx_le; omega) w'
  rotate_left
  · (try simp only [Act.put, List.setIfInBounds_toArray, List.set_cons_zero, List.set_cons_succ, i64_w, i32_w])
    rfl
  refine pure_ (i := 5) (N := some 19) (v := .string (bs ((tb ++ [108, 101, 116, 32] ++ nm) ++ ([32, 61, 32])))) (a' := ?_) #[true, true, true, true, true, true, false, false, false, false, false] rfl rfl (by kernel_rfl) (fun _ _ _ h => h) (Or.inl ⟨by rfl, ?_⟩) ?_ ?_
  · intro w'
    exact run_cat (t := 9) (t' := 9) (p := tb ++ [108, 101, 116, 32] ++ nm) (q := [32, 61, 32]) Tryd.underlying9 rfl rfl rfl (by (try simp only [List.length_append, List.length_cons, List.length_nil]); have := mx_le; have := bx_le; omega) w'
  rotate_left
  · (try simp only [Act.put, List.setIfInBounds_toArray, List.set_cons_zero, List.set_cons_succ, i64_w, i32_w])
    rfl
  refine take_ (i := 6) (N := some 20) (v := ?_) (a' := ?_) #[true, true, true, true, true, true, true, false, false, false, false] rfl rfl (by kernel_rfl) (fun _ _ _ h => h) (Or.inl ⟨by rfl, ?_⟩) hHeld ?_ ?_
  rotate_left
  · rintro w' hS
    have cb := hS.cell 0 rfl
    go_simp
    with_reducible rfl
  rotate_left
  · (try simp only [Act.put, List.setIfInBounds_toArray, List.set_cons_zero, List.set_cons_succ, i64_w, i32_w])
    rfl
  refine one_ (i := 7) (N := some 21) #[true, true, true, true, true, true, true, true, false, false, false] rfl rfl (by kernel_rfl) (by decide) (fun K hK => ?_)
  refine goes_ Tryd.func32 (by kernel_rfl) rfl #[.agg #[.int .i64 1, .int .i64 p0, .int .i64 p1, .string (bs nm), .slice A4 es.length c4, .slice A5 th.length c5, .slice A6 el.length c6], .int .i64 0] (by rfl) rfl rfl (by (try simp only [List.map_toArray, List.map_cons, List.map_nil]); first | done | rfl) ?_
  refine (H0.out _ (HS.old 1 rfl)).mono ?_
  rintro e w_ ⟨rfl, hb⟩
  refine ⟨_, rfl, ?_⟩
  replace HS := HS.below hb
  clear hb
  refine hK.out _ _ HS (fun hHeld => ?_)
  clear hK K
  refine norm_ (a' := ?_) ?_ ?_
  rotate_left
  · show Act.put _ _ _ = _
    (try simp only [Act.put, List.setIfInBounds_toArray, List.set_cons_zero, List.set_cons_succ, i64_w, i32_w])
    rfl
  refine pure_ (i := 8) (N := some 22) (v := .string (bs ((tb ++ [108, 101, 116, 32] ++ nm ++ [32, 61, 32]) ++ (a)))) (a' := ?_) #[true, true, true, true, true, true, true, true, true, false, false] rfl rfl (by kernel_rfl) (fun _ _ _ h => h) (Or.inl ⟨by rfl, ?_⟩) ?_ ?_
  · intro w'
    exact run_cat (t := 9) (t' := 9) (p := tb ++ [108, 101, 116, 32] ++ nm ++ [32, 61, 32]) (q := a) Tryd.underlying9 rfl rfl rfl (by (try simp only [List.length_append, List.length_cons, List.length_nil]); have := mx_le; have := bx_le; omega) w'
  rotate_left
  · (try simp only [Act.put, List.setIfInBounds_toArray, List.set_cons_zero, List.set_cons_succ, i64_w, i32_w])
    rfl
  refine pure_ (i := 9) (N := some 23) (v := .string (bs ((tb ++ [108, 101, 116, 32] ++ nm ++ [32, 61, 32] ++ a) ++ ([59, 10])))) (a' := ?_) #[true, true, true, true, true, true, true, true, true, true, false] rfl rfl (by kernel_rfl) (fun _ _ _ h => h) (Or.inl ⟨by rfl, ?_⟩) ?_ ?_
  · intro w'
    exact run_cat (t := 9) (t' := 9) (p := tb ++ [108, 101, 116, 32] ++ nm ++ [32, 61, 32] ++ a) (q := [59, 10]) Tryd.underlying9 rfl rfl rfl (by (try simp only [List.length_append, List.length_cons, List.length_nil]); have := mx_le; have := bx_le; omega) w'
  rotate_left
  · (try simp only [Act.put, List.setIfInBounds_toArray, List.set_cons_zero, List.set_cons_succ, i64_w, i32_w])
    rfl
  refine pure_ (i := 10) (N := some 4) (v := ?_) (a' := ?_) #[true, true, true, true, true, true, true, true, true, true, true] rfl rfl (by kernel_rfl) (fun _ _ _ h => h) (Or.inl ⟨by rfl, ?_⟩) ?_ ?_
  rotate_left
  · intro w'
    go_simp
    with_reducible rfl
  rotate_left
  · (try simp only [Act.put, List.setIfInBounds_toArray, List.set_cons_zero, List.set_cons_succ, i64_w, i32_w])
    rfl
  refine done_ (by kernel_rfl) ?_
  clear hHeld
  go_wp2
  go_ret
  exact ⟨ret_bs (by simp), HS.old 1 rfl⟩
set_option maxRecDepth 100000 in
set_option maxHeartbeats 2000000 in
theorem st_set (W : World) (hD : 0 ≤ D) (hw : wrap64 (D + 1) = D1) (HR : Aside0 (∀ w : World, Calls Tryd.prog 31 #[.string (bs [9]), .int .i64 D] w fun r w' => r = .returned (.string (bs tb)) ∧ Below w.heap.size w w')) (H0 : Aside0 (∀ w : World, Below W.heap.size W w → Calls Tryd.prog 32 #[.agg #[.int .i64 2, .int .i64 p0, .int .i64 p1, .string (bs nm), .slice A4 es.length c4, .slice A5 th.length c5, .slice A6 el.length c6], .int .i64 0] w fun r w' => r = .returned (.string (bs a)) ∧ Below w.heap.size w w')) (ltb : tb.length ≤ MX) (lnm : nm.length ≤ MX) (la : a.length ≤ MX)  :
    Calls Tryd.prog 16 #[.agg #[.int .i64 2, .int .i64 p0, .int .i64 p1, .string (bs nm), .slice A4 es.length c4, .slice A5 th.length c5, .slice A6 el.length c6], .int .i64 D] W fun r w' => r = .returned (.string (bs (tb ++ nm ++ [32, 61, 32] ++ a ++ [59, 10]))) ∧ Below W.heap.size W w' := by
  have HS := Sat.start W
  go_enter Tryd.func16, Tryd.ntmps16
  go_upto_region 1 with ((with_reducible refine gate_dst (N := 2) rfl ?_); go_must (refine ev_box HS rfl (N := 2) rfl (cs := #[.int .i64 2, .int .i64 p0, .int .i64 p1, .string (bs nm), .slice A4 es.length c4, .slice A5 th.length c5, .slice A6 el.length c6]) (t := 38) ?hrun ?_); (case hrun => first | (go_simp; done) | (go_simp; rfl)); clear HS; intro gb w HS)
  have hmx : max (0 : Int) D = D := by omega
  go_upto_region 2 with (go_at_call 31; refine (HR.out _).mono ?_; rintro e w_ ⟨rfl, hb⟩; replace HS := HS.below hb; clear hb)
  have cb := HS.cell 0 rfl
  go_wp2
  refine start_ (n := 10) (S := fun w' => Sat W w' [blk gb 38 #[.int .i64 2, .int .i64 p0, .int .i64 p1, .string (bs nm), .slice A4 es.length c4, .slice A5 th.length c5, .slice A6 el.length c6], old W]) (ds := []) #[false, false, false, false, false, false, false, false, false, false] (by kernel_rfl) rfl rfl HS.drew (fun hHeld => ?_)
  replace HS := HS.drew
  generalize World.drew w = w at HS hHeld ⊢
  refine pure_ (i := 0) (N := some 26) (v := ?_) (a' := ?_) #[true, false, false, false, false, false, false, false, false, false] rfl rfl (by kernel_rfl) (fun _ _ _ h => h) (Or.inl ⟨by rfl, ?_⟩) ?_ ?_
  rotate_left
  · intro w'
    go_simp
    with_reducible rfl
  rotate_left
  · (try simp only [Act.put, List.setIfInBounds_toArray, List.set_cons_zero, List.set_cons_succ, i64_w, i32_w])
    rfl
  refine pure_ (i := 1) (N := some 27) (v := ?_) (a' := ?_) #[true, true, false, false, false, false, false, false, false, false] rfl rfl (by kernel_rfl) (fun _ _ _ h => h) (Or.inl ⟨by rfl, ?_⟩) ?_ ?_
  rotate_left
  · intro w'
    go_simp
    with_reducible rfl
  rotate_left
  · (try simp only [Act.put, List.setIfInBounds_toArray, List.set_cons_zero, List.set_cons_succ, i64_w, i32_w])
    rfl
  refine take_ (i := 2) (N := some 28) (v := ?_) (a' := ?_) #[true, true, true, false, false, false, false, false, false, false] rfl rfl (by kernel_rfl) (fun _ _ _ h => h) (Or.inl ⟨by rfl, ?_⟩) hHeld ?_ ?_
  rotate_left
  · rintro w' hS
    have cb := hS.cell 0 rfl
    go_simp
    with_reducible rfl
  rotate_left
  · (try simp only [Act.put, List.setIfInBounds_toArray, List.set_cons_zero, List.set_cons_succ, i64_w, i32_w])
    rfl
  refine pure_ (i := 3) (N := some 29) (v := .string (bs ((tb) ++ (nm)))) (a' := ?_) #[true, true, true, true, false, false, false, false, false, false] rfl rfl (by kernel_rfl) (fun _ _ _ h => h) (Or.inl ⟨by rfl, ?_⟩) ?_ ?_
  · intro w'
    exact run_cat (t := 9) (t' := 9) (p := tb) (q := nm) Tryd.underlying9 rfl rfl rfl (by (try simp only [List.length_append, List.length_cons, List.length_nil]); have := mx_le; have := bx_le; omega) w'
  rotate_left
  · (try simp only [Act.put, List.setIfInBounds_toArray, List.set_cons_zero, List.set_cons_succ, i64_w, i32_w])
    rfl
  refine pure_ (i := 4) (N := some 30) (v := .string (bs ((tb ++ nm) ++ ([32, 61, 32])))) (a' := ?_) #[true, true, true, true, true, false, false, false, false, false] rfl rfl (by kernel_rfl) (fun _ _ _ h => h) (Or.inl ⟨by rfl, ?_⟩) ?_ ?_
  · intro w'
    exact run_cat (t := 9) (t' := 9) (p := tb ++ nm) (q := [32, 61, 32]) Tryd.underlying9 rfl rfl rfl (by (try simp only [List.length_append, List.length_cons, List.length_nil]); have := mx_le; have := bx_le; omega) w'
  rotate_left
  · (try simp only [Act.put, List.setIfInBounds_toArray, List.set_cons_zero, List.set_cons_succ, i64_w, i32_w])
    rfl
  refine take_ (i := 5) (N := some 31) (v := ?_) (a' := ?_) #[true, true, true, true, true, true, false, false, false, false] rfl rfl (by kernel_rfl) (fun _ _ _ h => h) (Or.inl ⟨by rfl, ?_⟩) hHeld ?_ ?_
  rotate_left
  · rintro w' hS
    have cb := hS.cell 0 rfl
    go_simp
    with_reducible rfl
  rotate_left
  · (try simp only [Act.put, List.setIfInBounds_toArray, List.set_cons_zero, List.set_cons_succ, i64_w, i32_w])
    rfl
  refine one_ (i := 6) (N := some 32) #[true, true, true, true, true, true, true, false, false, false] rfl rfl (by kernel_rfl) (by decide) (fun K hK => ?_)
  refine goes_ Tryd.func32 (by kernel_rfl) rfl #[.agg #[.int .i64 2, .int .i64 p0, .int .i64 p1, .string (bs nm), .slice A4 es.length c4, .slice A5 th.length c5, .slice A6 el.length c6], .int .i64 0] (by rfl) rfl rfl (by (try simp only [List.map_toArray, List.map_cons, List.map_nil]); first | done | rfl) ?_
  refine (H0.out _ (HS.old 1 rfl)).mono ?_
  rintro e w_ ⟨rfl, hb⟩
  refine ⟨_, rfl, ?_⟩
  replace HS := HS.below hb
  clear hb
  refine hK.out _ _ HS (fun hHeld => ?_)
  clear hK K
  refine norm_ (a' := ?_) ?_ ?_
  rotate_left
  · show Act.put _ _ _ = _
    (try simp only [Act.put, List.setIfInBounds_toArray, List.set_cons_zero, List.set_cons_succ, i64_w, i32_w])
    rfl
  refine pure_ (i := 7) (N := some 33) (v := .string (bs ((tb ++ nm ++ [32, 61, 32]) ++ (a)))) (a' := ?_) #[true, true, true, true, true, true, true, true, false, false] rfl rfl (by kernel_rfl) (fun _ _ _ h => h) (Or.inl ⟨by rfl, ?_⟩) ?_ ?_
  · intro w'
    exact run_cat (t := 9) (t' := 9) (p := tb ++ nm ++ [32, 61, 32]) (q := a) Tryd.underlying9 rfl rfl rfl (by (try simp only [List.length_append, List.length_cons, List.length_nil]); have := mx_le; have := bx_le; omega) w'
  rotate_left
  · (try simp only [Act.put, List.setIfInBounds_toArray, List.set_cons_zero, List.set_cons_succ, i64_w, i32_w])
    rfl
  refine pure_ (i := 8) (N := some 34) (v := .string (bs ((tb ++ nm ++ [32, 61, 32] ++ a) ++ ([59, 10])))) (a' := ?_) #[true, true, true, true, true, true, true, true, true, false] rfl rfl (by kernel_rfl) (fun _ _ _ h => h) (Or.inl ⟨by rfl, ?_⟩) ?_ ?_
  · intro w'
    exact run_cat (t := 9) (t' := 9) (p := tb ++ nm ++ [32, 61, 32] ++ a) (q := [59, 10]) Tryd.underlying9 rfl rfl rfl (by (try simp only [List.length_append, List.length_cons, List.length_nil]); have := mx_le; have := bx_le; omega) w'
  rotate_left
  · (try simp only [Act.put, List.setIfInBounds_toArray, List.set_cons_zero, List.set_cons_succ, i64_w, i32_w])
    rfl
  refine pure_ (i := 9) (N := some 4) (v := ?_) (a' := ?_) #[true, true, true, true, true, true, true, true, true, true] rfl rfl (by kernel_rfl) (fun _ _ _ h => h) (Or.inl ⟨by rfl, ?_⟩) ?_ ?_
  rotate_left
  · intro w'
    go_simp
    with_reducible rfl
  rotate_left
  · (try simp only [Act.put, List.setIfInBounds_toArray, List.set_cons_zero, List.set_cons_succ, i64_w, i32_w])
    rfl
  refine done_ (by kernel_rfl) ?_
  clear hHeld
  go_wp2
  go_ret
  exact ⟨ret_bs (by simp), HS.old 1 rfl⟩
set_option maxRecDepth 100000 in
set_option maxHeartbeats 2000000 in
theorem st_put (W : World) (hD : 0 ≤ D) (hw : wrap64 (D + 1) = D1) (HR : Aside0 (∀ w : World, Calls Tryd.prog 31 #[.string (bs [9]), .int .i64 D] w fun r w' => r = .returned (.string (bs tb)) ∧ Below w.heap.size w w')) (H0 : Aside0 (∀ w : World, Below W.heap.size W w → Calls Tryd.prog 32 #[.agg #[.int .i64 3, .int .i64 p0, .int .i64 p1, .string (bs nm), .slice A4 es.length c4, .slice A5 th.length c5, .slice A6 el.length c6], .int .i64 0] w fun r w' => r = .returned (.string (bs a)) ∧ Below w.heap.size w w')) (ltb : tb.length ≤ MX) (lnm : nm.length ≤ MX) (la : a.length ≤ MX) (H1 : Aside0 (∀ w : World, Below W.heap.size W w → Calls Tryd.prog 32 #[.agg #[.int .i64 3, .int .i64 p0, .int .i64 p1, .string (bs nm), .slice A4 es.length c4, .slice A5 th.length c5, .slice A6 el.length c6], .int .i64 1] w fun r w' => r = .returned (.string (bs b)) ∧ Below w.heap.size w w')) (lb : b.length ≤ MX) :
    Calls Tryd.prog 16 #[.agg #[.int .i64 3, .int .i64 p0, .int .i64 p1, .string (bs nm), .slice A4 es.length c4, .slice A5 th.length c5, .slice A6 el.length c6], .int .i64 D] W fun r w' => r = .returned (.string (bs (tb ++ nm ++ [91] ++ a ++ [93, 32, 61, 32] ++ b ++ [59, 10]))) ∧ Below W.heap.size W w' := by
  have HS := Sat.start W
  go_enter Tryd.func16, Tryd.ntmps16
  go_upto_region 1 with ((with_reducible refine gate_dst (N := 2) rfl ?_); go_must (refine ev_box HS rfl (N := 2) rfl (cs := #[.int .i64 3, .int .i64 p0, .int .i64 p1, .string (bs nm), .slice A4 es.length c4, .slice A5 th.length c5, .slice A6 el.length c6]) (t := 38) ?hrun ?_); (case hrun => first | (go_simp; done) | (go_simp; rfl)); clear HS; intro gb w HS)
  have hmx : max (0 : Int) D = D := by omega
  go_upto_region 2 with (go_at_call 31; refine (HR.out _).mono ?_; rintro e w_ ⟨rfl, hb⟩; replace HS := HS.below hb; clear hb)
  have cb := HS.cell 0 rfl
  go_wp2
  refine start_ (n := 14) (S := fun w' => Sat W w' [blk gb 38 #[.int .i64 3, .int .i64 p0, .int .i64 p1, .string (bs nm), .slice A4 es.length c4, .slice A5 th.length c5, .slice A6 el.length c6], old W]) (ds := []) #[false, false, false, false, false, false, false, false, false, false, false, false, false, false] (by kernel_rfl) rfl rfl HS.drew (fun hHeld => ?_)
  replace HS := HS.drew
  generalize World.drew w = w at HS hHeld ⊢
  refine pure_ (i := 0) (N := some 37) (v := ?_) (a' := ?_) #[true, false, false, false, false, false, false, false, false, false, false, false, false, false] rfl rfl (by kernel_rfl) (fun _ _ _ h => h) (Or.inl ⟨by rfl, ?_⟩) ?_ ?_
  rotate_left
  · intro w'
    go_simp
    with_reducible rfl
  rotate_left
  · (try simp only [Act.put, List.setIfInBounds_toArray, List.set_cons_zero, List.set_cons_succ, i64_w, i32_w])
    rfl
  refine pure_ (i := 1) (N := some 38) (v := ?_) (a' := ?_) #[true, true, false, false, false, false, false, false, false, false, false, false, false, false] rfl rfl (by kernel_rfl) (fun _ _ _ h => h) (Or.inl ⟨by rfl, ?_⟩) ?_ ?_
  rotate_left
  · intro w'
    go_simp
    with_reducible rfl
  rotate_left
  · (try simp only [Act.put, List.setIfInBounds_toArray, List.set_cons_zero, List.set_cons_succ, i64_w, i32_w])
    rfl
  refine take_ (i := 2) (N := some 39) (v := ?_) (a' := ?_) #[true, true, true, false, false, false, false, false, false, false, false, false, false, false] rfl rfl (by kernel_rfl) (fun _ _ _ h => h) (Or.inl ⟨by rfl, ?_⟩) hHeld ?_ ?_
  rotate_left
  · rintro w' hS
    have cb := hS.cell 0 rfl
    go_simp
    with_reducible rfl
  rotate_left
  · (try simp only [Act.put, List.setIfInBounds_toArray, List.set_cons_zero, List.set_cons_succ, i64_w, i32_w])
    rfl
  refine pure_ (i := 3) (N := some 40) (v := .string (bs ((tb) ++ (nm)))) (a' := ?_) #[true, true, true, true, false, false, false, false, false, false, false, false, false, false] rfl rfl (by kernel_rfl) (fun _ _ _ h => h) (Or.inl ⟨by rfl, ?_⟩) ?_ ?_
  · intro w'
    exact run_cat (t := 9) (t' := 9) (p := tb) (q := nm) Tryd.underlying9 rfl rfl rfl (by (try simp only [List.length_append, List.length_cons, List.length_nil]); have := mx_le; have := bx_le; omega) w'
  rotate_left
  · (try simp only [Act.put, List.setIfInBounds_toArray, List.set_cons_zero, List.set_cons_succ, i64_w, i32_w])
    rfl
  refine pure_ (i := 4) (N := some 41) (v := .string (bs ((tb ++ nm) ++ ([91])))) (a' := ?_) #[true, true, true, true, true, false, false, false, false, false, false, false, false, false] rfl rfl (by kernel_rfl) (fun _ _ _ h => h) (Or.inl ⟨by rfl, ?_⟩) ?_ ?_
  · intro w'
    exact run_cat (t := 9) (t' := 9) (p := tb ++ nm) (q := [91]) Tryd.underlying9 rfl rfl rfl (by (try simp only [List.length_append, List.length_cons, List.length_nil]); have := mx_le; have := bx_le; omega) w'
  rotate_left
  · (try simp only [Act.put, List.setIfInBounds_toArray, List.set_cons_zero, List.set_cons_succ, i64_w, i32_w])
    rfl
  refine take_ (i := 5) (N := some 42) (v := ?_) (a' := ?_) #[true, true, true, true, true, true, false, false, false, false, false, false, false, false] rfl rfl (by kernel_rfl) (fun _ _ _ h => h) (Or.inl ⟨by rfl, ?_⟩) hHeld ?_ ?_
  rotate_left
  · rintro w' hS
    have cb := hS.cell 0 rfl
    go_simp
    with_reducible rfl
  rotate_left
  · (try simp only [Act.put, List.setIfInBounds_toArray, List.set_cons_zero, List.set_cons_succ, i64_w, i32_w])
    rfl
  refine take_ (i := 9) (N := some 46) (v := ?_) (a' := ?_) #[true, true, true, true, true, true, false, false, false, true, false, false, false, false] rfl rfl (by kernel_rfl) (fun _ _ _ h => h) (Or.inl ⟨by rfl, ?_⟩) hHeld ?_ ?_
  rotate_left
  · rintro w' hS
    have cb := hS.cell 0 rfl
    go_simp
    with_reducible rfl
  rotate_left
  · (try simp only [Act.put, List.setIfInBounds_toArray, List.set_cons_zero, List.set_cons_succ, i64_w, i32_w])
    rfl
  refine one_ (i := 6) (N := some 43) #[true, true, true, true, true, true, true, false, false, true, false, false, false, false] rfl rfl (by kernel_rfl) (by decide) (fun K hK => ?_)
  refine goes_ Tryd.func32 (by kernel_rfl) rfl #[.agg #[.int .i64 3, .int .i64 p0, .int .i64 p1, .string (bs nm), .slice A4 es.length c4, .slice A5 th.length c5, .slice A6 el.length c6], .int .i64 0] (by rfl) rfl rfl (by (try simp only [List.map_toArray, List.map_cons, List.map_nil]); first | done | rfl) ?_
  refine (H0.out _ (HS.old 1 rfl)).mono ?_
  rintro e w_ ⟨rfl, hb⟩
  refine ⟨_, rfl, ?_⟩
  replace HS := HS.below hb
  clear hb
  refine hK.out _ _ HS (fun hHeld => ?_)
  clear hK K
  refine norm_ (a' := ?_) ?_ ?_
  rotate_left
  · show Act.put _ _ _ = _
    (try simp only [Act.put, List.setIfInBounds_toArray, List.set_cons_zero, List.set_cons_succ, i64_w, i32_w])
    rfl
  refine pure_ (i := 7) (N := some 44) (v := .string (bs ((tb ++ nm ++ [91]) ++ (a)))) (a' := ?_) #[true, true, true, true, true, true, true, true, false, true, false, false, false, false] rfl rfl (by kernel_rfl) (fun _ _ _ h => h) (Or.inl ⟨by rfl, ?_⟩) ?_ ?_
  · intro w'
    exact run_cat (t := 9) (t' := 9) (p := tb ++ nm ++ [91]) (q := a) Tryd.underlying9 rfl rfl rfl (by (try simp only [List.length_append, List.length_cons, List.length_nil]); have := mx_le; have := bx_le; omega) w'
  rotate_left
  · (try simp only [Act.put, List.setIfInBounds_toArray, List.set_cons_zero, List.set_cons_succ, i64_w, i32_w])
    rfl
  refine pure_ (i := 8) (N := some 45) (v := .string (bs ((tb ++ nm ++ [91] ++ a) ++ ([93, 32, 61, 32])))) (a' := ?_) #[true, true, true, true, true, true, true, true, true, true, false, false, false, false] rfl rfl (by kernel_rfl) (fun _ _ _ h => h) (Or.inl ⟨by rfl, ?_⟩) ?_ ?_
  · intro w'
    exact run_cat (t := 9) (t' := 9) (p := tb ++ nm ++ [91] ++ a) (q := [93, 32, 61, 32]) Tryd.underlying9 rfl rfl rfl (by (try simp only [List.length_append, List.length_cons, List.length_nil]); have := mx_le; have := bx_le; omega) w'
  rotate_left
  · (try simp only [Act.put, List.setIfInBounds_toArray, List.set_cons_zero, List.set_cons_succ, i64_w, i32_w])
    rfl
  refine one_ (i := 10) (N := some 47) #[true, true, true, true, true, true, true, true, true, true, true, false, false, false] rfl rfl (by kernel_rfl) (by decide) (fun K hK => ?_)
  refine goes_ Tryd.func32 (by kernel_rfl) rfl #[.agg #[.int .i64 3, .int .i64 p0, .int .i64 p1, .string (bs nm), .slice A4 es.length c4, .slice A5 th.length c5, .slice A6 el.length c6], .int .i64 1] (by rfl) rfl rfl (by (try simp only [List.map_toArray, List.map_cons, List.map_nil]); first | done | rfl) ?_
  refine (H1.out _ (HS.old 1 rfl)).mono ?_
  rintro e w_ ⟨rfl, hb⟩
  refine ⟨_, rfl, ?_⟩
  replace HS := HS.below hb
  clear hb
  refine hK.out _ _ HS (fun hHeld => ?_)
  clear hK K
  refine norm_ (a' := ?_) ?_ ?_
  rotate_left
  · show Act.put _ _ _ = _
    (try simp only [Act.put, List.setIfInBounds_toArray, List.set_cons_zero, List.set_cons_succ, i64_w, i32_w])
    rfl
  refine pure_ (i := 11) (N := some 48) (v := .string (bs ((tb ++ nm ++ [91] ++ a ++ [93, 32, 61, 32]) ++ (b)))) (a' := ?_) #[true, true, true, true, true, true, true, true, true, true, true, true, false, false] rfl rfl (by kernel_rfl) (fun _ _ _ h => h) (Or.inl ⟨by rfl, ?_⟩) ?_ ?_
  · intro w'
    exact run_cat (t := 9) (t' := 9) (p := tb ++ nm ++ [91] ++ a ++ [93, 32, 61, 32]) (q := b) Tryd.underlying9 rfl rfl rfl (by (try simp only [List.length_append, List.length_cons, List.length_nil]); have := mx_le; have := bx_le; omega) w'
  rotate_left
  · (try simp only [Act.put, List.setIfInBounds_toArray, List.set_cons_zero, List.set_cons_succ, i64_w, i32_w])
    rfl
  refine pure_ (i := 12) (N := some 49) (v := .string (bs ((tb ++ nm ++ [91] ++ a ++ [93, 32, 61, 32] ++ b) ++ ([59, 10])))) (a' := ?_) #[true, true, true, true, true, true, true, true, true, true, true, true, true, false] rfl rfl (by kernel_rfl) (fun _ _ _ h => h) (Or.inl ⟨by rfl, ?_⟩) ?_ ?_
  · intro w'
    exact run_cat (t := 9) (t' := 9) (p := tb ++ nm ++ [91] ++ a ++ [93, 32, 61, 32] ++ b) (q := [59, 10]) Tryd.underlying9 rfl rfl rfl (by (try simp only [List.length_append, List.length_cons, List.length_nil]); have := mx_le; have := bx_le; omega) w'
  rotate_left
  · (try simp only [Act.put, List.setIfInBounds_toArray, List.set_cons_zero, List.set_cons_succ, i64_w, i32_w])
    rfl
  refine pure_ (i := 13) (N := some 4) (v := ?_) (a' := ?_) #[true, true, true, true, true, true, true, true, true, true, true, true, true, true] rfl rfl (by kernel_rfl) (fun _ _ _ h => h) (Or.inl ⟨by rfl, ?_⟩) ?_ ?_
  rotate_left
  · intro w'
    go_simp
    with_reducible rfl
  rotate_left
  · (try simp only [Act.put, List.setIfInBounds_toArray, List.set_cons_zero, List.set_cons_succ, i64_w, i32_w])
    rfl
  refine done_ (by kernel_rfl) ?_
  clear hHeld
  go_wp2
  go_ret
  exact ⟨ret_bs (by simp), HS.old 1 rfl⟩
set_option maxRecDepth 100000 in
set_option maxHeartbeats 2000000 in
theorem st_if (W : World) (hD : 0 ≤ D) (hw : wrap64 (D + 1) = D1) (HR : Aside0 (∀ w : World, Calls Tryd.prog 31 #[.string (bs [9]), .int .i64 D] w fun r w' => r = .returned (.string (bs tb)) ∧ Below w.heap.size w w')) (H0 : Aside0 (∀ w : World, Below W.heap.size W w → Calls Tryd.prog 32 #[.agg #[.int .i64 4, .int .i64 p0, .int .i64 p1, .string (bs nm), .slice A4 es.length c4, .slice A5 th.length c5, .slice A6 el.length c6], .int .i64 0] w fun r w' => r = .returned (.string (bs a)) ∧ Below w.heap.size w w')) (ltb : tb.length ≤ MX) (lnm : nm.length ≤ MX) (la : a.length ≤ MX) (HT : Aside0 (∀ w : World, Below W.heap.size W w → Calls Tryd.prog 33 #[.slice A5 th.length c5, .int .i64 D1] w fun r w' => r = .returned (.string (bs tt)) ∧ Below w.heap.size w w')) (lt : tt.length ≤ BX) (he : Aside0 (el.length = 0)) :
    Calls Tryd.prog 16 #[.agg #[.int .i64 4, .int .i64 p0, .int .i64 p1, .string (bs nm), .slice A4 es.length c4, .slice A5 th.length c5, .slice A6 el.length c6], .int .i64 D] W fun r w' => r = .returned (.string (bs (tb ++ [105, 102, 32] ++ a ++ [32, 123, 10] ++ tt ++ tb ++ [125] ++ [10]))) ∧ Below W.heap.size W w' := by
  have HS := Sat.start W
  go_enter Tryd.func16, Tryd.ntmps16
  go_upto_region 1 with ((with_reducible refine gate_dst (N := 2) rfl ?_); go_must (refine ev_box HS rfl (N := 2) rfl (cs := #[.int .i64 4, .int .i64 p0, .int .i64 p1, .string (bs nm), .slice A4 es.length c4, .slice A5 th.length c5, .slice A6 el.length c6]) (t := 38) ?hrun ?_); (case hrun => first | (go_simp; done) | (go_simp; rfl)); clear HS; intro gb w HS)
  have hmx : max (0 : Int) D = D := by omega
  go_upto_region 2 with (go_at_call 31; refine (HR.out _).mono ?_; rintro e w_ ⟨rfl, hb⟩; replace HS := HS.below hb; clear hb)
  have cb := HS.cell 0 rfl
  go_wp2
  refine start_ (n := 16) (S := fun w' => Sat W w' [blk gb 38 #[.int .i64 4, .int .i64 p0, .int .i64 p1, .string (bs nm), .slice A4 es.length c4, .slice A5 th.length c5, .slice A6 el.length c6], old W]) (ds := []) #[false, false, false, false, false, false, false, false, false, false, false, false, false, false, false, false] (by kernel_rfl) rfl rfl HS.drew (fun hHeld => ?_)
  replace HS := HS.drew
  generalize World.drew w = w at HS hHeld ⊢
  refine pure_ (i := 0) (N := some 52) (v := ?_) (a' := ?_) #[true, false, false, false, false, false, false, false, false, false, false, false, false, false, false, false] rfl rfl (by kernel_rfl) (fun _ _ _ h => h) (Or.inl ⟨by rfl, ?_⟩) ?_ ?_
  rotate_left
  · intro w'
    go_simp
    with_reducible rfl
  rotate_left
  · (try simp only [Act.put, List.setIfInBounds_toArray, List.set_cons_zero, List.set_cons_succ, i64_w, i32_w])
    rfl
  refine pure_ (i := 1) (N := some 53) (v := .string (bs ((tb) ++ ([105, 102, 32])))) (a' := ?_) #[true, true, false, false, false, false, false, false, false, false, false, false, false, false, false, false] rfl rfl (by kernel_rfl) (fun _ _ _ h => h) (Or.inl ⟨by rfl, ?_⟩) ?_ ?_
  · intro w'
    exact run_cat (t := 9) (t' := 9) (p := tb) (q := [105, 102, 32]) Tryd.underlying9 rfl rfl rfl (by (try simp only [List.length_append, List.length_cons, List.length_nil]); have := mx_le; have := bx_le; omega) w'
  rotate_left
  · (try simp only [Act.put, List.setIfInBounds_toArray, List.set_cons_zero, List.set_cons_succ, i64_w, i32_w])
    rfl
  refine take_ (i := 2) (N := some 54) (v := ?_) (a' := ?_) #[true, true, true, false, false, false, false, false, false, false, false, false, false, false, false, false] rfl rfl (by kernel_rfl) (fun _ _ _ h => h) (Or.inl ⟨by rfl, ?_⟩) hHeld ?_ ?_
  rotate_left
  · rintro w' hS
    have cb := hS.cell 0 rfl
    go_simp
    with_reducible rfl
  rotate_left
  · (try simp only [Act.put, List.setIfInBounds_toArray, List.set_cons_zero, List.set_cons_succ, i64_w, i32_w])
    rfl
  refine pure_ (i := 6) (N := some 58) (v := ?_) (a' := ?_) #[true, true, true, false, false, false, true, false, false, false, false, false, false, false, false, false] rfl rfl (by kernel_rfl) (fun _ _ _ h => h) (Or.inl ⟨by rfl, ?_⟩) ?_ ?_
  rotate_left
  · intro w'
    go_simp
    with_reducible rfl
  rotate_left
  · (try simp only [Act.put, List.setIfInBounds_toArray, List.set_cons_zero, List.set_cons_succ, i64_w, i32_w])
    rfl
  refine take_ (i := 7) (N := some 59) (v := ?_) (a' := ?_) #[true, true, true, false, false, false, true, true, false, false, false, false, false, false, false, false] rfl rfl (by kernel_rfl) (fun _ _ _ h => h) (Or.inl ⟨by rfl, ?_⟩) hHeld ?_ ?_
  rotate_left
  · rintro w' hS
    have cb := hS.cell 0 rfl
    go_simp
    with_reducible rfl
  rotate_left
  · (try simp only [Act.put, List.setIfInBounds_toArray, List.set_cons_zero, List.set_cons_succ, i64_w, i32_w])
    rfl
  refine pure_ (i := 8) (N := some 60) (v := ?_) (a' := ?_) #[true, true, true, false, false, false, true, true, true, false, false, false, false, false, false, false] rfl rfl (by kernel_rfl) (fun _ _ _ h => h) (Or.inl ⟨by rfl, ?_⟩) ?_ ?_
  rotate_left
  · intro w'
    go_simp
    with_reducible rfl
  rotate_left
  · (try simp only [Act.put, List.setIfInBounds_toArray, List.set_cons_zero, List.set_cons_succ, i64_w, i32_w])
    rfl
  refine pure_ (i := 9) (N := some 61) (v := .int .i64 D1) (a' := ?_) #[true, true, true, false, false, false, true, true, true, true, false, false, false, false, false, false] rfl rfl (by kernel_rfl) (fun _ _ _ h => h) (Or.inl ⟨by rfl, ?_⟩) ?_ ?_
  · intro w'
    first | (go_simp; done) | (go_simp; exact hw) | (go_simp; rw [i64_w]; exact hw)
  rotate_left
  · (try simp only [Act.put, List.setIfInBounds_toArray, List.set_cons_zero, List.set_cons_succ, i64_w, i32_w])
    rfl
  refine pure_ (i := 12) (N := some 64) (v := ?_) (a' := ?_) #[true, true, true, false, false, false, true, true, true, true, false, false, true, false, false, false] rfl rfl (by kernel_rfl) (fun _ _ _ h => h) (Or.inl ⟨by rfl, ?_⟩) ?_ ?_
  rotate_left
  · intro w'
    go_simp
    with_reducible rfl
  rotate_left
  · (try simp only [Act.put, List.setIfInBounds_toArray, List.set_cons_zero, List.set_cons_succ, i64_w, i32_w])
    rfl
  refine one_ (i := 3) (N := some 55) #[true, true, true, true, false, false, true, true, true, true, false, false, true, false, false, false] rfl rfl (by kernel_rfl) (by decide) (fun K hK => ?_)
  refine goes_ Tryd.func32 (by kernel_rfl) rfl #[.agg #[.int .i64 4, .int .i64 p0, .int .i64 p1, .string (bs nm), .slice A4 es.length c4, .slice A5 th.length c5, .slice A6 el.length c6], .int .i64 0] (by rfl) rfl rfl (by (try simp only [List.map_toArray, List.map_cons, List.map_nil]); first | done | rfl) ?_
  refine (H0.out _ (HS.old 1 rfl)).mono ?_
  rintro e w_ ⟨rfl, hb⟩
  refine ⟨_, rfl, ?_⟩
  replace HS := HS.below hb
  clear hb
  refine hK.out _ _ HS (fun hHeld => ?_)
  clear hK K
  refine norm_ (a' := ?_) ?_ ?_
  rotate_left
  · show Act.put _ _ _ = _
    (try simp only [Act.put, List.setIfInBounds_toArray, List.set_cons_zero, List.set_cons_succ, i64_w, i32_w])
    rfl
  refine pure_ (i := 4) (N := some 56) (v := .string (bs ((tb ++ [105, 102, 32]) ++ (a)))) (a' := ?_) #[true, true, true, true, true, false, true, true, true, true, false, false, true, false, false, false] rfl rfl (by kernel_rfl) (fun _ _ _ h => h) (Or.inl ⟨by rfl, ?_⟩) ?_ ?_
  · intro w'
    exact run_cat (t := 9) (t' := 9) (p := tb ++ [105, 102, 32]) (q := a) Tryd.underlying9 rfl rfl rfl (by (try simp only [List.length_append, List.length_cons, List.length_nil]); have := mx_le; have := bx_le; omega) w'
  rotate_left
  · (try simp only [Act.put, List.setIfInBounds_toArray, List.set_cons_zero, List.set_cons_succ, i64_w, i32_w])
    rfl
  refine pure_ (i := 5) (N := some 57) (v := .string (bs ((tb ++ [105, 102, 32] ++ a) ++ ([32, 123, 10])))) (a' := ?_) #[true, true, true, true, true, true, true, true, true, true, false, false, true, false, false, false] rfl rfl (by kernel_rfl) (fun _ _ _ h => h) (Or.inl ⟨by rfl, ?_⟩) ?_ ?_
  · intro w'
    exact run_cat (t := 9) (t' := 9) (p := tb ++ [105, 102, 32] ++ a) (q := [32, 123, 10]) Tryd.underlying9 rfl rfl rfl (by (try simp only [List.length_append, List.length_cons, List.length_nil]); have := mx_le; have := bx_le; omega) w'
  rotate_left
  · (try simp only [Act.put, List.setIfInBounds_toArray, List.set_cons_zero, List.set_cons_succ, i64_w, i32_w])
    rfl
  refine one_ (i := 10) (N := some 62) #[true, true, true, true, true, true, true, true, true, true, true, false, true, false, false, false] rfl rfl (by kernel_rfl) (by decide) (fun K hK => ?_)
  refine goes_ Tryd.func33 (by kernel_rfl) rfl #[.slice A5 th.length c5, .int .i64 D1] (by rfl) rfl rfl (by (try simp only [List.map_toArray, List.map_cons, List.map_nil]); first | done | rfl) ?_
  refine (HT.out _ (HS.old 1 rfl)).mono ?_
  rintro e w_ ⟨rfl, hb⟩
  refine ⟨_, rfl, ?_⟩
  replace HS := HS.below hb
  clear hb
  refine hK.out _ _ HS (fun hHeld => ?_)
  clear hK K
  refine norm_ (a' := ?_) ?_ ?_
  rotate_left
  · show Act.put _ _ _ = _
    (try simp only [Act.put, List.setIfInBounds_toArray, List.set_cons_zero, List.set_cons_succ, i64_w, i32_w])
    rfl
  refine pure_ (i := 11) (N := some 63) (v := .string (bs ((tb ++ [105, 102, 32] ++ a ++ [32, 123, 10]) ++ (tt)))) (a' := ?_) #[true, true, true, true, true, true, true, true, true, true, true, true, true, false, false, false] rfl rfl (by kernel_rfl) (fun _ _ _ h => h) (Or.inl ⟨by rfl, ?_⟩) ?_ ?_
  · intro w'
    exact run_cat (t := 9) (t' := 9) (p := tb ++ [105, 102, 32] ++ a ++ [32, 123, 10]) (q := tt) Tryd.underlying9 rfl rfl rfl (by (try simp only [List.length_append, List.length_cons, List.length_nil]); have := mx_le; have := bx_le; omega) w'
  rotate_left
  · (try simp only [Act.put, List.setIfInBounds_toArray, List.set_cons_zero, List.set_cons_succ, i64_w, i32_w])
    rfl
  refine pure_ (i := 13) (N := some 65) (v := .string (bs ((tb ++ [105, 102, 32] ++ a ++ [32, 123, 10] ++ tt) ++ (tb)))) (a' := ?_) #[true, true, true, true, true, true, true, true, true, true, true, true, true, true, false, false] rfl rfl (by kernel_rfl) (fun _ _ _ h => h) (Or.inl ⟨by rfl, ?_⟩) ?_ ?_
  · intro w'
    exact run_cat (t := 9) (t' := 9) (p := tb ++ [105, 102, 32] ++ a ++ [32, 123, 10] ++ tt) (q := tb) Tryd.underlying9 rfl rfl rfl (by (try simp only [List.length_append, List.length_cons, List.length_nil]); have := mx_le; have := bx_le; omega) w'
  rotate_left
  · (try simp only [Act.put, List.setIfInBounds_toArray, List.set_cons_zero, List.set_cons_succ, i64_w, i32_w])
    rfl
  refine pure_ (i := 14) (N := some 66) (v := .string (bs ((tb ++ [105, 102, 32] ++ a ++ [32, 123, 10] ++ tt ++ tb) ++ ([125])))) (a' := ?_) #[true, true, true, true, true, true, true, true, true, true, true, true, true, true, true, false] rfl rfl (by kernel_rfl) (fun _ _ _ h => h) (Or.inl ⟨by rfl, ?_⟩) ?_ ?_
  · intro w'
    exact run_cat (t := 9) (t' := 9) (p := tb ++ [105, 102, 32] ++ a ++ [32, 123, 10] ++ tt ++ tb) (q := [125]) Tryd.underlying9 rfl rfl rfl (by (try simp only [List.length_append, List.length_cons, List.length_nil]); have := mx_le; have := bx_le; omega) w'
  rotate_left
  · (try simp only [Act.put, List.setIfInBounds_toArray, List.set_cons_zero, List.set_cons_succ, i64_w, i32_w])
    rfl
  refine pure_ (i := 15) (N := some 6) (v := ?_) (a' := ?_) #[true, true, true, true, true, true, true, true, true, true, true, true, true, true, true, true] rfl rfl (by kernel_rfl) (fun _ _ _ h => h) (Or.inl ⟨by rfl, ?_⟩) ?_ ?_
  rotate_left
  · intro w'
    go_simp
    with_reducible rfl
  rotate_left
  · (try simp only [Act.put, List.setIfInBounds_toArray, List.set_cons_zero, List.set_cons_succ, i64_w, i32_w])
    rfl
  refine done_ (by kernel_rfl) ?_
  clear hHeld
  have cb := HS.cell 0 rfl
  have z0 : decide ((0 : Int) < (el.length : Int)) = false := decide_eq_false (by have := he.out; omega)
  have z1 : decide (0 < el.length) = false := decide_eq_false (by have := he.out; omega)
  go_wp2_with (first | ((with_reducible refine gate_bin (b := .add) (t := 9) (t' := 9) rfl ?_); go_must (refine ev_cat Tryd.underlying9 rfl rfl rfl rfl rfl (by (try simp only [List.length_append, List.length_cons, List.length_nil]); have := mx_le; have := bx_le; omega) ?_)))
  go_ret
  exact ⟨ret_bs (by simp), HS.old 1 rfl⟩
set_option maxRecDepth 100000 in
set_option maxHeartbeats 2000000 in
theorem st_ifelse (W : World) (hD : 0 ≤ D) (hw : wrap64 (D + 1) = D1) (HR : Aside0 (∀ w : World, Calls Tryd.prog 31 #[.string (bs [9]), .int .i64 D] w fun r w' => r = .returned (.string (bs tb)) ∧ Below w.heap.size w w')) (H0 : Aside0 (∀ w : World, Below W.heap.size W w → Calls Tryd.prog 32 #[.agg #[.int .i64 4, .int .i64 p0, .int .i64 p1, .string (bs nm), .slice A4 es.length c4, .slice A5 th.length c5, .slice A6 el.length c6], .int .i64 0] w fun r w' => r = .returned (.string (bs a)) ∧ Below w.heap.size w w')) (ltb : tb.length ≤ MX) (lnm : nm.length ≤ MX) (la : a.length ≤ MX) (HT : Aside0 (∀ w : World, Below W.heap.size W w → Calls Tryd.prog 33 #[.slice A5 th.length c5, .int .i64 D1] w fun r w' => r = .returned (.string (bs tt)) ∧ Below w.heap.size w w')) (lt : tt.length ≤ BX) (HE : Aside0 (∀ w : World, Below W.heap.size W w → Calls Tryd.prog 33 #[.slice A6 el.length c6, .int .i64 D1] w fun r w' => r = .returned (.string (bs te)) ∧ Below w.heap.size w w')) (le_ : te.length ≤ BX) (he : Aside0 (0 < el.length)) :
    Calls Tryd.prog 16 #[.agg #[.int .i64 4, .int .i64 p0, .int .i64 p1, .string (bs nm), .slice A4 es.length c4, .slice A5 th.length c5, .slice A6 el.length c6], .int .i64 D] W fun r w' => r = .returned (.string (bs (tb ++ [105, 102, 32] ++ a ++ [32, 123, 10] ++ tt ++ tb ++ [125] ++ [32, 101, 108, 115, 101, 32, 123, 10] ++ te ++ tb ++ [125] ++ [10]))) ∧ Below W.heap.size W w' := by
  have HS := Sat.start W
  go_enter Tryd.func16, Tryd.ntmps16
  go_upto_region 1 with ((with_reducible refine gate_dst (N := 2) rfl ?_); go_must (refine ev_box HS rfl (N := 2) rfl (cs := #[.int .i64 4, .int .i64 p0, .int .i64 p1, .string (bs nm), .slice A4 es.length c4, .slice A5 th.length c5, .slice A6 el.length c6]) (t := 38) ?hrun ?_); (case hrun => first | (go_simp; done) | (go_simp; rfl)); clear HS; intro gb w HS)
  have hmx : max (0 : Int) D = D := by omega
  go_upto_region 2 with (go_at_call 31; refine (HR.out _).mono ?_; rintro e w_ ⟨rfl, hb⟩; replace HS := HS.below hb; clear hb)
  have cb := HS.cell 0 rfl
  go_wp2
  refine start_ (n := 16) (S := fun w' => Sat W w' [blk gb 38 #[.int .i64 4, .int .i64 p0, .int .i64 p1, .string (bs nm), .slice A4 es.length c4, .slice A5 th.length c5, .slice A6 el.length c6], old W]) (ds := []) #[false, false, false, false, false, false, false, false, false, false, false, false, false, false, false, false] (by kernel_rfl) rfl rfl HS.drew (fun hHeld => ?_)
  replace HS := HS.drew
  generalize World.drew w = w at HS hHeld ⊢
  refine pure_ (i := 0) (N := some 52) (v := ?_) (a' := ?_) #[true, false, false, false, false, false, false, false, false, false, false, false, false, false, false, false] rfl rfl (by kernel_rfl) (fun _ _ _ h => h) (Or.inl ⟨by rfl, ?_⟩) ?_ ?_
  rotate_left
  · intro w'
    go_simp
    with_reducible rfl
  rotate_left
  · (try simp only [Act.put, List.setIfInBounds_toArray, List.set_cons_zero, List.set_cons_succ, i64_w, i32_w])
    rfl
  refine pure_ (i := 1) (N := some 53) (v := .string (bs ((tb) ++ ([105, 102, 32])))) (a' := ?_) #[true, true, false, false, false, false, false, false, false, false, false, false, false, false, false, false] rfl rfl (by kernel_rfl) (fun _ _ _ h => h) (Or.inl ⟨by rfl, ?_⟩) ?_ ?_
  · intro w'
    exact run_cat (t := 9) (t' := 9) (p := tb) (q := [105, 102, 32]) Tryd.underlying9 rfl rfl rfl (by (try simp only [List.length_append, List.length_cons, List.length_nil]); have := mx_le; have := bx_le; omega) w'
  rotate_left
  · (try simp only [Act.put, List.setIfInBounds_toArray, List.set_cons_zero, List.set_cons_succ, i64_w, i32_w])
    rfl
  refine take_ (i := 2) (N := some 54) (v := ?_) (a' := ?_) #[true, true, true, false, false, false, false, false, false, false, false, false, false, false, false, false] rfl rfl (by kernel_rfl) (fun _ _ _ h => h) (Or.inl ⟨by rfl, ?_⟩) hHeld ?_ ?_
  rotate_left
  · rintro w' hS
    have cb := hS.cell 0 rfl
    go_simp
    with_reducible rfl
  rotate_left
  · (try simp only [Act.put, List.setIfInBounds_toArray, List.set_cons_zero, List.set_cons_succ, i64_w, i32_w])
    rfl
  refine pure_ (i := 6) (N := some 58) (v := ?_) (a' := ?_) #[true, true, true, false, false, false, true, false, false, false, false, false, false, false, false, false] rfl rfl (by kernel_rfl) (fun _ _ _ h => h) (Or.inl ⟨by rfl, ?_⟩) ?_ ?_
  rotate_left
  · intro w'
    go_simp
    with_reducible rfl
  rotate_left
  · (try simp only [Act.put, List.setIfInBounds_toArray, List.set_cons_zero, List.set_cons_succ, i64_w, i32_w])
    rfl
  refine take_ (i := 7) (N := some 59) (v := ?_) (a' := ?_) #[true, true, true, false, false, false, true, true, false, false, false, false, false, false, false, false] rfl rfl (by kernel_rfl) (fun _ _ _ h => h) (Or.inl ⟨by rfl, ?_⟩) hHeld ?_ ?_
  rotate_left
  · rintro w' hS
    have cb := hS.cell 0 rfl
    go_simp
    with_reducible rfl
  rotate_left
  · (try simp only [Act.put, List.setIfInBounds_toArray, List.set_cons_zero, List.set_cons_succ, i64_w, i32_w])
    rfl
  refine pure_ (i := 8) (N := some 60) (v := ?_) (a' := ?_) #[true, true, true, false, false, false, true, true, true, false, false, false, false, false, false, false] rfl rfl (by kernel_rfl) (fun _ _ _ h => h) (Or.inl ⟨by rfl, ?_⟩) ?_ ?_
  rotate_left
  · intro w'
    go_simp
    with_reducible rfl
  rotate_left
  · (try simp only [Act.put, List.setIfInBounds_toArray, List.set_cons_zero, List.set_cons_succ, i64_w, i32_w])
    rfl
  refine pure_ (i := 9) (N := some 61) (v := .int .i64 D1) (a' := ?_) #[true, true, true, false, false, false, true, true, true, true, false, false, false, false, false, false] rfl rfl (by kernel_rfl) (fun _ _ _ h => h) (Or.inl ⟨by rfl, ?_⟩) ?_ ?_
  · intro w'
    first | (go_simp; done) | (go_simp; exact hw) | (go_simp; rw [i64_w]; exact hw)
  rotate_left
  · (try simp only [Act.put, List.setIfInBounds_toArray, List.set_cons_zero, List.set_cons_succ, i64_w, i32_w])
    rfl
  refine pure_ (i := 12) (N := some 64) (v := ?_) (a' := ?_) #[true, true, true, false, false, false, true, true, true, true, false, false, true, false, false, false] rfl rfl (by kernel_rfl) (fun _ _ _ h => h) (Or.inl ⟨by rfl, ?_⟩) ?_ ?_
  rotate_left
  · intro w'
    go_simp
    with_reducible rfl
  rotate_left
  · (try simp only [Act.put, List.setIfInBounds_toArray, List.set_cons_zero, List.set_cons_succ, i64_w, i32_w])
    rfl
  refine one_ (i := 3) (N := some 55) #[true, true, true, true, false, false, true, true, true, true, false, false, true, false, false, false] rfl rfl (by kernel_rfl) (by decide) (fun K hK => ?_)
  refine goes_ Tryd.func32 (by kernel_rfl) rfl #[.agg #[.int .i64 4, .int .i64 p0, .int .i64 p1, .string (bs nm), .slice A4 es.length c4, .slice A5 th.length c5, .slice A6 el.length c6], .int .i64 0] (by rfl) rfl rfl (by (try simp only [List.map_toArray, List.map_cons, List.map_nil]); first | done | rfl) ?_
  refine (H0.out _ (HS.old 1 rfl)).mono ?_
  rintro e w_ ⟨rfl, hb⟩
  refine ⟨_, rfl, ?_⟩
  replace HS := HS.below hb
  clear hb
  refine hK.out _ _ HS (fun hHeld => ?_)
  clear hK K
  refine norm_ (a' := ?_) ?_ ?_
  rotate_left
  · show Act.put _ _ _ = _
    (try simp only [Act.put, List.setIfInBounds_toArray, List.set_cons_zero, List.set_cons_succ, i64_w, i32_w])
    rfl
  refine pure_ (i := 4) (N := some 56) (v := .string (bs ((tb ++ [105, 102, 32]) ++ (a)))) (a' := ?_) #[true, true, true, true, true, false, true, true, true, true, false, false, true, false, false, false] rfl rfl (by kernel_rfl) (fun _ _ _ h => h) (Or.inl ⟨by rfl, ?_⟩) ?_ ?_
  · intro w'
    exact run_cat (t := 9) (t' := 9) (p := tb ++ [105, 102, 32]) (q := a) Tryd.underlying9 rfl rfl rfl (by (try simp only [List.length_append, List.length_cons, List.length_nil]); have := mx_le; have := bx_le; omega) w'
  rotate_left
  · (try simp only [Act.put, List.setIfInBounds_toArray, List.set_cons_zero, List.set_cons_succ, i64_w, i32_w])
    rfl
  refine pure_ (i := 5) (N := some 57) (v := .string (bs ((tb ++ [105, 102, 32] ++ a) ++ ([32, 123, 10])))) (a' := ?_) #[true, true, true, true, true, true, true, true, true, true, false, false, true, false, false, false] rfl rfl (by kernel_rfl) (fun _ _ _ h => h) (Or.inl ⟨by rfl, ?_⟩) ?_ ?_
  · intro w'
    exact run_cat (t := 9) (t' := 9) (p := tb ++ [105, 102, 32] ++ a) (q := [32, 123, 10]) Tryd.underlying9 rfl rfl rfl (by (try simp only [List.length_append, List.length_cons, List.length_nil]); have := mx_le; have := bx_le; omega) w'
  rotate_left
  · (try simp only [Act.put, List.setIfInBounds_toArray, List.set_cons_zero, List.set_cons_succ, i64_w, i32_w])
    rfl
  refine one_ (i := 10) (N := some 62) #[true, true, true, true, true, true, true, true, true, true, true, false, true, false, false, false] rfl rfl (by kernel_rfl) (by decide) (fun K hK => ?_)
  refine goes_ Tryd.func33 (by kernel_rfl) rfl #[.slice A5 th.length c5, .int .i64 D1] (by rfl) rfl rfl (by (try simp only [List.map_toArray, List.map_cons, List.map_nil]); first | done | rfl) ?_
  refine (HT.out _ (HS.old 1 rfl)).mono ?_
  rintro e w_ ⟨rfl, hb⟩
  refine ⟨_, rfl, ?_⟩
  replace HS := HS.below hb
  clear hb
  refine hK.out _ _ HS (fun hHeld => ?_)
  clear hK K
  refine norm_ (a' := ?_) ?_ ?_
  rotate_left
  · show Act.put _ _ _ = _
    (try simp only [Act.put, List.setIfInBounds_toArray, List.set_cons_zero, List.set_cons_succ, i64_w, i32_w])
    rfl
  refine pure_ (i := 11) (N := some 63) (v := .string (bs ((tb ++ [105, 102, 32] ++ a ++ [32, 123, 10]) ++ (tt)))) (a' := ?_) #[true, true, true, true, true, true, true, true, true, true, true, true, true, false, false, false] rfl rfl (by kernel_rfl) (fun _ _ _ h => h) (Or.inl ⟨by rfl, ?_⟩) ?_ ?_
  · intro w'
    exact run_cat (t := 9) (t' := 9) (p := tb ++ [105, 102, 32] ++ a ++ [32, 123, 10]) (q := tt) Tryd.underlying9 rfl rfl rfl (by (try simp only [List.length_append, List.length_cons, List.length_nil]); have := mx_le; have := bx_le; omega) w'
  rotate_left
  · (try simp only [Act.put, List.setIfInBounds_toArray, List.set_cons_zero, List.set_cons_succ, i64_w, i32_w])
    rfl
  refine pure_ (i := 13) (N := some 65) (v := .string (bs ((tb ++ [105, 102, 32] ++ a ++ [32, 123, 10] ++ tt) ++ (tb)))) (a' := ?_) #[true, true, true, true, true, true, true, true, true, true, true, true, true, true, false, false] rfl rfl (by kernel_rfl) (fun _ _ _ h => h) (Or.inl ⟨by rfl, ?_⟩) ?_ ?_
  · intro w'
    exact run_cat (t := 9) (t' := 9) (p := tb ++ [105, 102, 32] ++ a ++ [32, 123, 10] ++ tt) (q := tb) Tryd.underlying9 rfl rfl rfl (by (try simp only [List.length_append, List.length_cons, List.length_nil]); have := mx_le; have := bx_le; omega) w'
  rotate_left
  · (try simp only [Act.put, List.setIfInBounds_toArray, List.set_cons_zero, List.set_cons_succ, i64_w, i32_w])
    rfl
  refine pure_ (i := 14) (N := some 66) (v := .string (bs ((tb ++ [105, 102, 32] ++ a ++ [32, 123, 10] ++ tt ++ tb) ++ ([125])))) (a' := ?_) #[true, true, true, true, true, true, true, true, true, true, true, true, true, true, true, false] rfl rfl (by kernel_rfl) (fun _ _ _ h => h) (Or.inl ⟨by rfl, ?_⟩) ?_ ?_
  · intro w'
    exact run_cat (t := 9) (t' := 9) (p := tb ++ [105, 102, 32] ++ a ++ [32, 123, 10] ++ tt ++ tb) (q := [125]) Tryd.underlying9 rfl rfl rfl (by (try simp only [List.length_append, List.length_cons, List.length_nil]); have := mx_le; have := bx_le; omega) w'
  rotate_left
  · (try simp only [Act.put, List.setIfInBounds_toArray, List.set_cons_zero, List.set_cons_succ, i64_w, i32_w])
    rfl
  refine pure_ (i := 15) (N := some 6) (v := ?_) (a' := ?_) #[true, true, true, true, true, true, true, true, true, true, true, true, true, true, true, true] rfl rfl (by kernel_rfl) (fun _ _ _ h => h) (Or.inl ⟨by rfl, ?_⟩) ?_ ?_
  rotate_left
  · intro w'
    go_simp
    with_reducible rfl
  rotate_left
  · (try simp only [Act.put, List.setIfInBounds_toArray, List.set_cons_zero, List.set_cons_succ, i64_w, i32_w])
    rfl
  refine done_ (by kernel_rfl) ?_
  clear hHeld
  have cb := HS.cell 0 rfl
  have z0 : decide ((0 : Int) < (el.length : Int)) = true := decide_eq_true (by have := he.out; omega)
  have z1 : decide (0 < el.length) = true := decide_eq_true (by have := he.out; omega)
  go_wp2_with (first | (go_at_call 33; refine (HE.out _ (HS.old 1 rfl)).mono ?_; rintro e w_ ⟨rfl, hb⟩; replace HS := HS.below hb; clear hb cb; have cb := HS.cell 0 rfl) | ((with_reducible refine gate_bin (b := .add) (t := 9) (t' := 9) rfl ?_); go_must (refine ev_cat Tryd.underlying9 rfl rfl rfl rfl rfl (by (try simp only [List.length_append, List.length_cons, List.length_nil]); have := mx_le; have := bx_le; omega) ?_)))
  go_ret
  exact ⟨ret_bs (by simp), HS.old 1 rfl⟩
set_option maxRecDepth 100000 in
set_option maxHeartbeats 2000000 in
theorem st_while (W : World) (hD : 0 ≤ D) (hw : wrap64 (D + 1) = D1) (HR : Aside0 (∀ w : World, Calls Tryd.prog 31 #[.string (bs [9]), .int .i64 D] w fun r w' => r = .returned (.string (bs tb)) ∧ Below w.heap.size w w')) (H0 : Aside0 (∀ w : World, Below W.heap.size W w → Calls Tryd.prog 32 #[.agg #[.int .i64 5, .int .i64 p0, .int .i64 p1, .string (bs nm), .slice A4 es.length c4, .slice A5 th.length c5, .slice A6 el.length c6], .int .i64 0] w fun r w' => r = .returned (.string (bs a)) ∧ Below w.heap.size w w')) (ltb : tb.length ≤ MX) (lnm : nm.length ≤ MX) (la : a.length ≤ MX) (HT : Aside0 (∀ w : World, Below W.heap.size W w → Calls Tryd.prog 33 #[.slice A5 th.length c5, .int .i64 D1] w fun r w' => r = .returned (.string (bs tt)) ∧ Below w.heap.size w w')) (lt : tt.length ≤ BX) :
    Calls Tryd.prog 16 #[.agg #[.int .i64 5, .int .i64 p0, .int .i64 p1, .string (bs nm), .slice A4 es.length c4, .slice A5 th.length c5, .slice A6 el.length c6], .int .i64 D] W fun r w' => r = .returned (.string (bs (tb ++ [119, 104, 105, 108, 101, 32] ++ a ++ [32, 123, 10] ++ tt ++ tb ++ [125, 10]))) ∧ Below W.heap.size W w' := by
  have HS := Sat.start W
  go_enter Tryd.func16, Tryd.ntmps16
  go_upto_region 1 with ((with_reducible refine gate_dst (N := 2) rfl ?_); go_must (refine ev_box HS rfl (N := 2) rfl (cs := #[.int .i64 5, .int .i64 p0, .int .i64 p1, .string (bs nm), .slice A4 es.length c4, .slice A5 th.length c5, .slice A6 el.length c6]) (t := 38) ?hrun ?_); (case hrun => first | (go_simp; done) | (go_simp; rfl)); clear HS; intro gb w HS)
  have hmx : max (0 : Int) D = D := by omega
  go_upto_region 2 with (go_at_call 31; refine (HR.out _).mono ?_; rintro e w_ ⟨rfl, hb⟩; replace HS := HS.below hb; clear hb)
  have cb := HS.cell 0 rfl
  go_wp2
  refine start_ (n := 16) (S := fun w' => Sat W w' [blk gb 38 #[.int .i64 5, .int .i64 p0, .int .i64 p1, .string (bs nm), .slice A4 es.length c4, .slice A5 th.length c5, .slice A6 el.length c6], old W]) (ds := []) #[false, false, false, false, false, false, false, false, false, false, false, false, false, false, false, false] (by kernel_rfl) rfl rfl HS.drew (fun hHeld => ?_)
  replace HS := HS.drew
  generalize World.drew w = w at HS hHeld ⊢
  refine pure_ (i := 0) (N := some 86) (v := ?_) (a' := ?_) #[true, false, false, false, false, false, false, false, false, false, false, false, false, false, false, false] rfl rfl (by kernel_rfl) (fun _ _ _ h => h) (Or.inl ⟨by rfl, ?_⟩) ?_ ?_
  rotate_left
  · intro w'
    go_simp
    with_reducible rfl
  rotate_left
  · (try simp only [Act.put, List.setIfInBounds_toArray, List.set_cons_zero, List.set_cons_succ, i64_w, i32_w])
    rfl
  refine pure_ (i := 1) (N := some 87) (v := .string (bs ((tb) ++ ([119, 104, 105, 108, 101, 32])))) (a' := ?_) #[true, true, false, false, false, false, false, false, false, false, false, false, false, false, false, false] rfl rfl (by kernel_rfl) (fun _ _ _ h => h) (Or.inl ⟨by rfl, ?_⟩) ?_ ?_
  · intro w'
    exact run_cat (t := 9) (t' := 9) (p := tb) (q := [119, 104, 105, 108, 101, 32]) Tryd.underlying9 rfl rfl rfl (by (try simp only [List.length_append, List.length_cons, List.length_nil]); have := mx_le; have := bx_le; omega) w'
  rotate_left
  · (try simp only [Act.put, List.setIfInBounds_toArray, List.set_cons_zero, List.set_cons_succ, i64_w, i32_w])
    rfl
  refine take_ (i := 2) (N := some 88) (v := ?_) (a' := ?_) #[true, true, true, false, false, false, false, false, false, false, false, false, false, false, false, false] rfl rfl (by kernel_rfl) (fun _ _ _ h => h) (Or.inl ⟨by rfl, ?_⟩) hHeld ?_ ?_
  rotate_left
  · rintro w' hS
    have cb := hS.cell 0 rfl
    go_simp
    with_reducible rfl
  rotate_left
  · (try simp only [Act.put, List.setIfInBounds_toArray, List.set_cons_zero, List.set_cons_succ, i64_w, i32_w])
    rfl
  refine pure_ (i := 6) (N := some 92) (v := ?_) (a' := ?_) #[true, true, true, false, false, false, true, false, false, false, false, false, false, false, false, false] rfl rfl (by kernel_rfl) (fun _ _ _ h => h) (Or.inl ⟨by rfl, ?_⟩) ?_ ?_
  rotate_left
  · intro w'
    go_simp
    with_reducible rfl
  rotate_left
  · (try simp only [Act.put, List.setIfInBounds_toArray, List.set_cons_zero, List.set_cons_succ, i64_w, i32_w])
    rfl
  refine take_ (i := 7) (N := some 93) (v := ?_) (a' := ?_) #[true, true, true, false, false, false, true, true, false, false, false, false, false, false, false, false] rfl rfl (by kernel_rfl) (fun _ _ _ h => h) (Or.inl ⟨by rfl, ?_⟩) hHeld ?_ ?_
  rotate_left
  · rintro w' hS
    have cb := hS.cell 0 rfl
    go_simp
    with_reducible rfl
  rotate_left
  · (try simp only [Act.put, List.setIfInBounds_toArray, List.set_cons_zero, List.set_cons_succ, i64_w, i32_w])
    rfl
  refine pure_ (i := 8) (N := some 94) (v := ?_) (a' := ?_) #[true, true, true, false, false, false, true, true, true, false, false, false, false, false, false, false] rfl rfl (by kernel_rfl) (fun _ _ _ h => h) (Or.inl ⟨by rfl, ?_⟩) ?_ ?_
  rotate_left
  · intro w'
    go_simp
    with_reducible rfl
  rotate_left
  · (try simp only [Act.put, List.setIfInBounds_toArray, List.set_cons_zero, List.set_cons_succ, i64_w, i32_w])
    rfl
  refine pure_ (i := 9) (N := some 95) (v := .int .i64 D1) (a' := ?_) #[true, true, true, false, false, false, true, true, true, true, false, false, false, false, false, false] rfl rfl (by kernel_rfl) (fun _ _ _ h => h) (Or.inl ⟨by rfl, ?_⟩) ?_ ?_
  · intro w'
    first | (go_simp; done) | (go_simp; exact hw) | (go_simp; rw [i64_w]; exact hw)
  rotate_left
  · (try simp only [Act.put, List.setIfInBounds_toArray, List.set_cons_zero, List.set_cons_succ, i64_w, i32_w])
    rfl
  refine pure_ (i := 12) (N := some 98) (v := ?_) (a' := ?_) #[true, true, true, false, false, false, true, true, true, true, false, false, true, false, false, false] rfl rfl (by kernel_rfl) (fun _ _ _ h => h) (Or.inl ⟨by rfl, ?_⟩) ?_ ?_
  rotate_left
  · intro w'
    go_simp
    with_reducible rfl
  rotate_left
  · (try simp only [Act.put, List.setIfInBounds_toArray, List.set_cons_zero, List.set_cons_succ, i64_w, i32_w])
    rfl
  refine one_ (i := 3) (N := some 89) #[true, true, true, true, false, false, true, true, true, true, false, false, true, false, false, false] rfl rfl (by kernel_rfl) (by decide) (fun K hK => ?_)
  refine goes_ Tryd.func32 (by kernel_rfl) rfl #[.agg #[.int .i64 5, .int .i64 p0, .int .i64 p1, .string (bs nm), .slice A4 es.length c4, .slice A5 th.length c5, .slice A6 el.length c6], .int .i64 0] (by rfl) rfl rfl (by (try simp only [List.map_toArray, List.map_cons, List.map_nil]); first | done | rfl) ?_
  refine (H0.out _ (HS.old 1 rfl)).mono ?_
  rintro e w_ ⟨rfl, hb⟩
  refine ⟨_, rfl, ?_⟩
  replace HS := HS.below hb
  clear hb
  refine hK.out _ _ HS (fun hHeld => ?_)
  clear hK K
  refine norm_ (a' := ?_) ?_ ?_
  rotate_left
  · show Act.put _ _ _ = _
    (try simp only [Act.put, List.setIfInBounds_toArray, List.set_cons_zero, List.set_cons_succ, i64_w, i32_w])
    rfl
  refine pure_ (i := 4) (N := some 90) (v := .string (bs ((tb ++ [119, 104, 105, 108, 101, 32]) ++ (a)))) (a' := ?_) #[true, true, true, true, true, false, true, true, true, true, false, false, true, false, false, false] rfl rfl (by kernel_rfl) (fun _ _ _ h => h) (Or.inl ⟨by rfl, ?_⟩) ?_ ?_
  · intro w'
    exact run_cat (t := 9) (t' := 9) (p := tb ++ [119, 104, 105, 108, 101, 32]) (q := a) Tryd.underlying9 rfl rfl rfl (by (try simp only [List.length_append, List.length_cons, List.length_nil]); have := mx_le; have := bx_le; omega) w'
  rotate_left
  · (try simp only [Act.put, List.setIfInBounds_toArray, List.set_cons_zero, List.set_cons_succ, i64_w, i32_w])
    rfl
  refine pure_ (i := 5) (N := some 91) (v := .string (bs ((tb ++ [119, 104, 105, 108, 101, 32] ++ a) ++ ([32, 123, 10])))) (a' := ?_) #[true, true, true, true, true, true, true, true, true, true, false, false, true, false, false, false] rfl rfl (by kernel_rfl) (fun _ _ _ h => h) (Or.inl ⟨by rfl, ?_⟩) ?_ ?_
  · intro w'
    exact run_cat (t := 9) (t' := 9) (p := tb ++ [119, 104, 105, 108, 101, 32] ++ a) (q := [32, 123, 10]) Tryd.underlying9 rfl rfl rfl (by (try simp only [List.length_append, List.length_cons, List.length_nil]); have := mx_le; have := bx_le; omega) w'
  rotate_left
  · (try simp only [Act.put, List.setIfInBounds_toArray, List.set_cons_zero, List.set_cons_succ, i64_w, i32_w])
    rfl
  refine one_ (i := 10) (N := some 96) #[true, true, true, true, true, true, true, true, true, true, true, false, true, false, false, false] rfl rfl (by kernel_rfl) (by decide) (fun K hK => ?_)
  refine goes_ Tryd.func33 (by kernel_rfl) rfl #[.slice A5 th.length c5, .int .i64 D1] (by rfl) rfl rfl (by (try simp only [List.map_toArray, List.map_cons, List.map_nil]); first | done | rfl) ?_
  refine (HT.out _ (HS.old 1 rfl)).mono ?_
  rintro e w_ ⟨rfl, hb⟩
  refine ⟨_, rfl, ?_⟩
  replace HS := HS.below hb
  clear hb
  refine hK.out _ _ HS (fun hHeld => ?_)
  clear hK K
  refine norm_ (a' := ?_) ?_ ?_
  rotate_left
  · show Act.put _ _ _ = _
    (try simp only [Act.put, List.setIfInBounds_toArray, List.set_cons_zero, List.set_cons_succ, i64_w, i32_w])
    rfl
  refine pure_ (i := 11) (N := some 97) (v := .string (bs ((tb ++ [119, 104, 105, 108, 101, 32] ++ a ++ [32, 123, 10]) ++ (tt)))) (a' := ?_) #[true, true, true, true, true, true, true, true, true, true, true, true, true, false, false, false] rfl rfl (by kernel_rfl) (fun _ _ _ h => h) (Or.inl ⟨by rfl, ?_⟩) ?_ ?_
  · intro w'
    exact run_cat (t := 9) (t' := 9) (p := tb ++ [119, 104, 105, 108, 101, 32] ++ a ++ [32, 123, 10]) (q := tt) Tryd.underlying9 rfl rfl rfl (by (try simp only [List.length_append, List.length_cons, List.length_nil]); have := mx_le; have := bx_le; omega) w'
  rotate_left
  · (try simp only [Act.put, List.setIfInBounds_toArray, List.set_cons_zero, List.set_cons_succ, i64_w, i32_w])
    rfl
  refine pure_ (i := 13) (N := some 99) (v := .string (bs ((tb ++ [119, 104, 105, 108, 101, 32] ++ a ++ [32, 123, 10] ++ tt) ++ (tb)))) (a' := ?_) #[true, true, true, true, true, true, true, true, true, true, true, true, true, true, false, false] rfl rfl (by kernel_rfl) (fun _ _ _ h => h) (Or.inl ⟨by rfl, ?_⟩) ?_ ?_
  · intro w'
    exact run_cat (t := 9) (t' := 9) (p := tb ++ [119, 104, 105, 108, 101, 32] ++ a ++ [32, 123, 10] ++ tt) (q := tb) Tryd.underlying9 rfl rfl rfl (by (try simp only [List.length_append, List.length_cons, List.length_nil]); have := mx_le; have := bx_le; omega) w'
  rotate_left
  · (try simp only [Act.put, List.setIfInBounds_toArray, List.set_cons_zero, List.set_cons_succ, i64_w, i32_w])
    rfl
  refine pure_ (i := 14) (N := some 100) (v := .string (bs ((tb ++ [119, 104, 105, 108, 101, 32] ++ a ++ [32, 123, 10] ++ tt ++ tb) ++ ([125, 10])))) (a' := ?_) #[true, true, true, true, true, true, true, true, true, true, true, true, true, true, true, false] rfl rfl (by kernel_rfl) (fun _ _ _ h => h) (Or.inl ⟨by rfl, ?_⟩) ?_ ?_
  · intro w'
    exact run_cat (t := 9) (t' := 9) (p := tb ++ [119, 104, 105, 108, 101, 32] ++ a ++ [32, 123, 10] ++ tt ++ tb) (q := [125, 10]) Tryd.underlying9 rfl rfl rfl (by (try simp only [List.length_append, List.length_cons, List.length_nil]); have := mx_le; have := bx_le; omega) w'
  rotate_left
  · (try simp only [Act.put, List.setIfInBounds_toArray, List.set_cons_zero, List.set_cons_succ, i64_w, i32_w])
    rfl
  refine pure_ (i := 15) (N := some 4) (v := ?_) (a' := ?_) #[true, true, true, true, true, true, true, true, true, true, true, true, true, true, true, true] rfl rfl (by kernel_rfl) (fun _ _ _ h => h) (Or.inl ⟨by rfl, ?_⟩) ?_ ?_
  rotate_left
  · intro w'
    go_simp
    with_reducible rfl
  rotate_left
  · (try simp only [Act.put, List.setIfInBounds_toArray, List.set_cons_zero, List.set_cons_succ, i64_w, i32_w])
    rfl
  refine done_ (by kernel_rfl) ?_
  clear hHeld
  go_wp2
  go_ret
  exact ⟨ret_bs (by simp), HS.old 1 rfl⟩
set_option maxRecDepth 100000 in
set_option maxHeartbeats 2000000 in
theorem st_return (W : World) (hD : 0 ≤ D) (hw : wrap64 (D + 1) = D1) (HR : Aside0 (∀ w : World, Calls Tryd.prog 31 #[.string (bs [9]), .int .i64 D] w fun r w' => r = .returned (.string (bs tb)) ∧ Below w.heap.size w w')) (H0 : Aside0 (∀ w : World, Below W.heap.size W w → Calls Tryd.prog 32 #[.agg #[.int .i64 6, .int .i64 p0, .int .i64 p1, .string (bs nm), .slice A4 es.length c4, .slice A5 th.length c5, .slice A6 el.length c6], .int .i64 0] w fun r w' => r = .returned (.string (bs a)) ∧ Below w.heap.size w w')) (ltb : tb.length ≤ MX) (lnm : nm.length ≤ MX) (la : a.length ≤ MX)  :
    Calls Tryd.prog 16 #[.agg #[.int .i64 6, .int .i64 p0, .int .i64 p1, .string (bs nm), .slice A4 es.length c4, .slice A5 th.length c5, .slice A6 el.length c6], .int .i64 D] W fun r w' => r = .returned (.string (bs (tb ++ [114, 101, 116, 117, 114, 110, 32] ++ a ++ [59, 10]))) ∧ Below W.heap.size W w' := by
  have HS := Sat.start W
  go_enter Tryd.func16, Tryd.ntmps16
  go_upto_region 1 with ((with_reducible refine gate_dst (N := 2) rfl ?_); go_must (refine ev_box HS rfl (N := 2) rfl (cs := #[.int .i64 6, .int .i64 p0, .int .i64 p1, .string (bs nm), .slice A4 es.length c4, .slice A5 th.length c5, .slice A6 el.length c6]) (t := 38) ?hrun ?_); (case hrun => first | (go_simp; done) | (go_simp; rfl)); clear HS; intro gb w HS)
  have hmx : max (0 : Int) D = D := by omega
  go_upto_region 2 with (go_at_call 31; refine (HR.out _).mono ?_; rintro e w_ ⟨rfl, hb⟩; replace HS := HS.below hb; clear hb)
  have cb := HS.cell 0 rfl
  go_wp2_with (first | (go_at_call 32; refine (H0.out _ (HS.old 1 rfl)).mono ?_; rintro e w_ ⟨rfl, hb⟩; replace HS := HS.below hb; clear hb cb; have cb := HS.cell 0 rfl) | ((with_reducible refine gate_bin (b := .add) (t := 9) (t' := 9) rfl ?_); go_must (refine ev_cat Tryd.underlying9 rfl rfl rfl rfl rfl (by (try simp only [List.length_append, List.length_cons, List.length_nil]); have := mx_le; have := bx_le; omega) ?_)))
  go_ret
  exact ⟨ret_bs (by simp), HS.old 1 rfl⟩
set_option maxRecDepth 100000 in
set_option maxHeartbeats 2000000 in
theorem st_other (W : World) (hD : 0 ≤ D) (hw : wrap64 (D + 1) = D1) (HR : Aside0 (∀ w : World, Calls Tryd.prog 31 #[.string (bs [9]), .int .i64 D] w fun r w' => r = .returned (.string (bs tb)) ∧ Below w.heap.size w w')) (H0 : Aside0 (∀ w : World, Below W.heap.size W w → Calls Tryd.prog 32 #[.agg #[.int .i64 K, .int .i64 p0, .int .i64 p1, .string (bs nm), .slice A4 es.length c4, .slice A5 th.length c5, .slice A6 el.length c6], .int .i64 0] w fun r w' => r = .returned (.string (bs a)) ∧ Below w.heap.size w w')) (ltb : tb.length ≤ MX) (lnm : nm.length ≤ MX) (la : a.length ≤ MX) (k1 : (K == 1) = false) (k2 : (K == 2) = false) (k3 : (K == 3) = false) (k4 : (K == 4) = false) (k5 : (K == 5) = false) (k6 : (K == 6) = false) :
    Calls Tryd.prog 16 #[.agg #[.int .i64 K, .int .i64 p0, .int .i64 p1, .string (bs nm), .slice A4 es.length c4, .slice A5 th.length c5, .slice A6 el.length c6], .int .i64 D] W fun r w' => r = .returned (.string (bs (tb ++ a ++ [59, 10]))) ∧ Below W.heap.size W w' := by
  have HS := Sat.start W
  go_enter Tryd.func16, Tryd.ntmps16
  go_upto_region 1 with ((with_reducible refine gate_dst (N := 2) rfl ?_); go_must (refine ev_box HS rfl (N := 2) rfl (cs := #[.int .i64 K, .int .i64 p0, .int .i64 p1, .string (bs nm), .slice A4 es.length c4, .slice A5 th.length c5, .slice A6 el.length c6]) (t := 38) ?hrun ?_); (case hrun => first | (go_simp; done) | (go_simp; rfl)); clear HS; intro gb w HS)
  have hmx : max (0 : Int) D = D := by omega
  go_upto_region 2 with (go_at_call 31; refine (HR.out _).mono ?_; rintro e w_ ⟨rfl, hb⟩; replace HS := HS.below hb; clear hb)
  have cb := HS.cell 0 rfl
  go_wp2_with (first | (go_at_call 32; refine (H0.out _ (HS.old 1 rfl)).mono ?_; rintro e w_ ⟨rfl, hb⟩; replace HS := HS.below hb; clear hb cb; have cb := HS.cell 0 rfl) | ((with_reducible refine gate_bin (b := .add) (t := 9) (t' := 9) rfl ?_); go_must (refine ev_cat Tryd.underlying9 rfl rfl rfl rfl rfl (by (try simp only [List.length_append, List.length_cons, List.length_nil]); have := mx_le; have := bx_le; omega) ?_)))
  go_ret
  exact ⟨ret_bs (by simp), HS.old 1 rfl⟩
end
end Go.Proofs.YtaammdmaldodaaaDoor.B
