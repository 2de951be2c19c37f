/- The machine that runs ahead: where it is behind the next instruction; noting where it should be. -/
import Derived.Test.YtkgoljbimblkhaaSpecH
import Derived.Great.FillDense
import Derived.Great.BuildSlice
import Derived.Test.YtkgoljbimblkhaaSep3
namespace Go.Proofs.Ytkgoljbimblkhaa.B
open Go.RowKit Go.Proofs.Ytkgoljbimblkhaa.Mine Go.Proofs.Ytkgoljbimblkhaa.Sep Go.Proofs.YtkgoljbimblkhaaW.PrintWords Go.Proofs.YtkgoljbimblkhaaW.PrintLast Go.Proofs.YtkgoljbimblkhaaW.PrintMore
set_option linter.unusedVariables false
set_option linter.unusedSimpArgs false
def ptZ : Array Value := (stL z0 ++ [Value.slice none 0 0]).toArray
theorem built_point (parts : List (Nat × Value)) : Try.prog.built 94 parts = Instr.fill (fun i => (#[(0, 69), (69, 1)] : Array (Nat × Nat))[i]?) ptZ parts := by kernel_rfl
theorem fill_step {place : Nat → Option (Nat × Nat)} {cells : Array Value} {i : Nat} {v : Value} {rest : List (Nat × Value)} {off size : Nat} (h : place i = some (off, size)) (hs : v.cells.size = size) (hf : off + size ≤ cells.size) :
    ∃ r : Array Value, Instr.fill place cells ((i, v) :: rest) = Instr.fill place r rest ∧ r.size = cells.size ∧ ∀ k, r[k]? = if off ≤ k ∧ k < off + size then v.cells[k - off]? else cells[k]? := by
  obtain ⟨h1, h2⟩ := Great.foldl_set off v.cells.toList 0 cells
  refine ⟨_, ?_, h1, fun k => ?_⟩
  · rw [Instr.fill, h]
    simp only [hs, ne_eq, not_true_eq_false, decide_false, Bool.false_or, decide_eq_true_eq]
    rw [if_neg (by omega)]
    simp only [← Array.foldl_toList, Array.toList_zipIdx]
  · rw [h2 k]
    simp only [Nat.add_zero, Array.length_toList, hs]
    by_cases hk : off ≤ k ∧ k < off + size
    · rw [if_pos ⟨hk.1, hk.2, by omega⟩, if_pos hk, Array.getElem?_toList]
    · rw [if_neg (fun h => hk ⟨h.1, h.2.1⟩), if_neg hk]
theorem run_point {s : St} (hs : s.regs.length = 64) (v : Value) (hv : v.cells = #[v]) (w : World) : (Instr.build 94 #[(0, .agg (stL s).toArray), (1, v)]).run Try.prog w = .ok (.agg (stL s ++ [v]).toArray) w := by
  have h69 := stL_length hs
  refine run_build w _ _ _ ?_
  rw [built_point]
  obtain ⟨r, h1, h2, h3⟩ := fill_step (place := fun i => (#[(0, 69), (69, 1)] : Array (Nat × Nat))[i]?) (cells := ptZ) (i := 0) (v := .agg (stL s).toArray) (rest := [(1, v)]) (off := 0) (size := 69) rfl (by simpa [Value.cells] using h69) (by decide)
  obtain ⟨r2, h4, h5, h6⟩ := fill_step (place := fun i => (#[(0, 69), (69, 1)] : Array (Nat × Nat))[i]?) (cells := r) (i := 1) (v := v) (rest := []) (off := 69) (size := 1) rfl (by rw [hv]; rfl) (by rw [h2]; decide)
  show Instr.fill _ ptZ [(0, .agg (stL s).toArray), (1, v)] = _
  rw [h1, h4, Instr.fill]
  congr 1
  apply Array.ext_getElem?
  intro k
  have e : (stL s ++ [v]).toArray[k]? = (stL s ++ [v])[k]? := by simp
  rw [h6 k, h3 k, e]
  by_cases hk : k < 69
  · rw [if_neg (by omega), if_pos (by omega), List.getElem?_append_left (by omega)]
    simp [Value.cells]
  · by_cases hk2 : k = 69
    · subst hk2
      rw [if_pos (by omega), List.getElem?_append_right (by omega), h69, hv]
      rfl
    · rw [if_neg (by omega), if_neg (by omega), Array.getElem?_eq_none (by show 70 ≤ k; omega), List.getElem?_eq_none (by rw [List.length_append, h69]; show 69 + 1 ≤ k; omega)]
section
variable {g : Nat} {A : Option Addr} {n c : Nat} {vc vt : Value} {win : Int} {W0 w : World} {L : List Chunk} {Ac : Option Addr} {cc : Nat} {code : List S56}
theorem wc_one (b : List (Int × Int)) : ∀ u ∈ (b.map wc).flatten, u.oneCell' = true := by
  intro u hu
  obtain ⟨x, hx, hux⟩ := List.mem_flatten.1 hu
  obtain ⟨y, _, rfl⟩ := List.mem_map.1 hx
  simp only [wc, List.mem_cons, List.not_mem_nil, or_false] at hux
  rcases hux with rfl | rfl <;> rfl
theorem ev_append_none {P : Program} {ops : Array Oper} {rest : List Oper} {o : Oper} {a : Act} {Q : Exit → Act → World → Prop} {ad ad2 : Addr} {c : Nat} (s x : Operand) (t e : TypeId) (hgd : o.guard = none)
    (ho : o.op = .call { callee := .builtin .append, args := #[s, x], argTypes := #[t, t] }) (hs : a.eval s = .slice (some ad) 0 0) (hx : a.eval x = .slice (some ad2) 0 c)
    (ht : P.underlying t = some (.slice e)) (hinfo : (P.info? e).isSome = true) (h : wpList P ops Q rest (a.put o.dst (.slice (some ad) 0 0)) w) : wpList P ops Q (o :: rest) a w := by
  refine wpList_plain hgd fun K hK => ?_
  obtain ⟨ii, hi⟩ := Option.isSome_iff_exists.1 hinfo
  have hr : ∀ ty, (Builtin.append_ #[t, t] ty #[.slice (some ad) 0 0, .slice (some ad2) 0 c]).run P w = .ok (.slice (some ad) 0 0) w := fun ty => by
    simp [Builtin.append_, run_underlying ht, sizeOf, typeInfo, hi, Builtin.lenOf, Builtin.firstCells, loadCells, loadCellsFrom, storeCells]
  unfold Oper.wp execOp
  simp only [ho, resolve, invoke, builtin, Sem.run_bind, Sem.run_pure, Result.andThen_ok, List.map_toArray, List.map_cons, List.map_nil, hs, hx, hr]
  exact hK _ _ h

theorem eq_nil (cq : Nat) (w : World) : (Go.binOp .eql 82 (.slice none 0 cq) (.slice none 0 0)).run Try.prog w = .ok (.bool true) w := by kernel_rfl
theorem eq_some (ad : Addr) (k cq : Nat) (w : World) : (Go.binOp .eql 82 (.slice (some ad) k cq) (.slice none 0 0)).run Try.prog w = .ok (.bool false) w := by kernel_rfl

set_option maxRecDepth 100000 in
set_option maxHeartbeats 2000000 in
theorem clone_calls {vb : Value} {b : List (Int × Int)} (i : Nat) (hi : L[i]? = some (BQ vb b)) (hb : b.length ≤ 1000000) (HS : Sat W0 w L) :
    Calls Try.prog 43 #[vb] w fun e w' => ∃ v, e = .returned v ∧ Sat W0 w' (BQ v b :: L) := by
  obtain ⟨Ab, cq, rfl, hcq⟩ := HS.queSlice i hi
  have hl : (b.map wc).length = b.length := List.length_map _
  have q0 := eq_nil cq
  have q1 := fun ad k => eq_some ad k cq
  cases Ab with
  | none =>
    have hb0 : b = [] := by
      cases b with
      | nil => rfl
      | cons x b => obtain ⟨ad, h, _⟩ := HS.queAll i hi (by simp); cases h
    subst hb0
    go_enter Try.func43, Try.ntmps43
    go_wp2
    go_ret
    exact ⟨_, rfl, HS.queNil _ _ _⟩
  | some ad =>
    by_cases h0 : b = []
    · subst h0
      go_enter Try.func43, Try.ntmps43
      go_wp2_with (first | ((with_reducible refine gate_dst (N := 5) rfl ?_); go_must (refine ev_lit IW (e := 99) HS rfl (N := 5) rfl (xs := ([] : List Int)) (inner := []) ?hrun (Reps.none _ _) (by first | decide | simp) ?_); (case hrun => first | (go_simp; done) | (go_simp; rfl)); clear HS; intro gl w HS) | ((with_reducible refine gate_builtin (b := .append) (xs := #[.tmp 5, .tmp 6]) rfl ?_); go_must (refine ev_append_none (.tmp 5) (.tmp 6) 82 99 rfl rfl rfl rfl Try.underlying82 (by kernel_rfl) ?_)))
      go_ret
      exact ⟨_, rfl, HS.tail.queNil _ _ _⟩
    · have hpos : 0 < b.length := List.length_pos_iff.2 h0
      obtain ⟨nb, hnb⟩ : ∃ nb, nb = (b.map wc).length := ⟨_, rfl⟩
      rw [← hnb] at hi hcq ⊢
      have hpos2 : 0 < nb := by omega
      have HNB := Aside0.mk (And.intro hpos2 hl)
      clear hpos hpos2 hnb hl h0
      go_enter Try.func43, Try.ntmps43
      go_wp2_with (first | (((with_reducible refine gate_dst (N := 5) rfl ?_); go_must (refine ev_lit IW (e := 99) HS rfl (N := 5) rfl (xs := ([] : List Int)) (inner := []) ?hrun (Reps.none _ _) (by first | decide | simp) ?_); (case hrun => first | (go_simp; done) | (go_simp; rfl)); clear HS; intro gl w HS); replace HS := HS.tail.queNil 99 2 (some ⟨gl, 0, none⟩)) | ((with_reducible refine gate_builtin (b := .append) (xs := #[.tmp 5, .tmp 6]) rfl ?_); go_must (refine ev_qapps HS 0 (i + 1) rfl (by rw [List.getElem?_cons_succ]; exact hi) HNB.out.1 (.tmp 5) (.tmp 6) 82 (.agg #[.int .i64 0, .int .i64 0]) 16 rfl rfl rfl rfl Try.underlying82 info99 rfl (by decide) (wc_one b) (by rw [HNB.out.2]; simp; omega) (by decide) ?_); clear HS; intro vo w HS))
      go_ret
      exact ⟨_, rfl, HS⟩

theorem info_mach : (Try.prog.info? 86).map (·.size) = some 76 := by kernel_rfl
theorem size_mach {s : St} {vm vb vs : Value} {left : Int} (h : s.regs.length = 64) : (Try.prog.info? 86).map (·.size) = some (mcL s vc vm vb vs vt win left).toArray.size := by rw [info_mach, List.size_toArray, mcL_length h]
theorem len_mach {s : St} {vm vb vs : Value} {left : Int} (h : s.regs.length = 64) : (Try.prog.info? 86).map (·.size) = some (mcL s vc vm vb vs vt win left).length := by rw [info_mach, mcL_length h]
def mZ : Array Value := (mcL z0 (.slice none 0 0) (.slice none 0 0) (.slice none 0 0) (.slice none 0 0) (.slice none 0 0) 0 0).toArray
theorem size_pt {s : St} {v : Value} (h : s.regs.length = 64) : (Try.prog.info? 94).map (·.size) = some (stL s ++ [v]).toArray.size := by
  rw [List.size_toArray, List.length_append, stL_length h]; kernel_rfl
theorem len_pt {s : St} {v : Value} (h : s.regs.length = 64) : (Try.prog.info? 94).map (·.size) = some (stL s ++ [v]).length := by
  rw [List.length_append, stL_length h]; kernel_rfl
theorem results_ct {P : Program} {fn : Func} {p u : Tmp} {ty : TypeId} (h : fn.results = #[.cell p ty, .tmp u]) (tmps : Array Value) (w : World) (g : Nat) (t : TypeId) (cs : Array Value) (fr : Nat × Nat) (d : TypeDesc)
    (hp : tmps.getD p undef = .pointer (some ⟨g, 0, none⟩)) (hg : w.heap[g]? = some (.cells cs t fr))
    (hu : P.underlying ty = some d) (hd : (match d with | .struct _ | .array _ _ => true | _ => false) = true) (hi : (P.info? ty).map (·.size) = some cs.size) :
    (results fn tmps).run P w = .ok (.tuple #[.agg cs, tmps.getD u undef]) w := by
  have hp' : tmps[p]?.getD undef = .pointer (some ⟨g, 0, none⟩) := by simpa using hp
  simp [results, h, hp', asAddr, run_loadVar_row w g t ty cs fr d hg hu hd hi]

theorem ev_build_point {ops : Array Oper} {rest : List Oper} {o : Oper} {a : Act} {Q : Exit → Act → World → Prop} {s : St} {v : Value} {x y : Operand} {N : Tmp} (hs : s.regs.length = 64) (hv : v.cells = #[v]) (hgd : o.guard = none) (hd : o.dst = some N) (ho : o.op = .build 94 #[(0, x), (1, y)])
    (hx : a.eval x = .agg (stL s).toArray) (hy : a.eval y = v) (h : wpList Try.prog ops Q rest (a.put (some N) (.agg (stL s ++ [v]).toArray)) w) : wpList Try.prog ops Q (o :: rest) a w := by
  refine wpList_plain hgd fun K hK => ?_
  unfold Oper.wp execOp
  simp only [ho, List.map_toArray, List.map_cons, List.map_nil, hx, hy, Sem.run_bind, run_point hs v hv w, Result.andThen_ok, Sem.run_pure]
  show K (a.put o.dst _) _
  rw [hd]
  exact hK _ _ h

set_option maxRecDepth 100000 in
set_option maxHeartbeats 2000000 in
theorem ahead_calls {X : SM} {At : Option Addr} {nt ct : Nat} (hC : ∀ w, Sat W0 w L → Kd.C k56 w Ac code.length code) (hfit : ∀ i ∈ code, Fit i) (hb : X.buf.length ≤ 900000) (HS : Sat W0 w (mch g A n c (.slice Ac code.length cc) (.slice At nt ct) win X :: L)) :
    Calls Try.prog 40 #[.pointer (some ⟨g, 0, none⟩)] w fun e w' => ∃ vb vo, e = .returned (.tuple #[.agg (stL (steppedF false code X).s ++ [vb]).toArray, vo]) ∧
      Sat W0 w' (row k66 66 vo (stepOut false code X) :: BQ vb (steppedF false code X).buf :: mch g A n c (.slice Ac code.length cc) (.slice At nt ct) win X :: L) := by
  obtain ⟨vb, vs, hs, HS⟩ := mOpen HS
  obtain ⟨Ab, cq, rfl, hcq⟩ := HS.queSlice 1 rfl
  obtain ⟨⟨As, cs, rfl, hcs⟩, _⟩ := svdSlice HS 3 rfl
  obtain ⟨nb, hnb⟩ : ∃ nb, (X.buf.map wc).length = nb := ⟨_, rfl⟩
  rw [hnb] at HS hcq
  clear hnb
  have hr := stepF_regs (vF false) code X.s ⟨X.mem, X.buf⟩ hs
  have hkeep := (vstep_keeps false code X.s ⟨X.mem, X.buf⟩).1
  unfold steppedF stepOut
  dsimp only
  obtain ⟨r, hr0⟩ : ∃ r, r = stepF (vF false) code X.s ⟨X.mem, X.buf⟩ := ⟨_, rfl⟩
  rw [← hr0] at hr hkeep ⊢
  have HR0 := Aside0.mk hr0
  have HKE := Aside0.mk hkeep
  clear hr0 hkeep
  go_enter Try.func40, Try.ntmps40
  go_upto_region 1 with ((with_reducible refine gate_dst (N := 2) rfl ?_); go_must (refine ev_box HS rfl (N := 2) rfl (cs := ptZ) (t := 94) ?hrun ?_); (case hrun => first | (go_simp; done) | (go_simp; rfl)); clear HS; intro g2 w HS)
  go_upto_region 2 with (first | ((with_reducible refine gate_load (ty := 86) (p := 7) rfl ?_); go_must (refine ev_load HS 1 rfl rfl 86 (.tmp 7) rfl (N := 8) rfl rfl _ Try.underlying86 rfl (size_mach hs) ?_)) | ((with_reducible refine gate_dst (N := 4) rfl ?_); go_must (refine ev_box HS rfl (N := 4) rfl (cs := mZ) (t := 86) ?hrun ?_); (case hrun => first | (go_simp; done) | (go_simp; rfl)); clear HS; intro gy w HS) | ((with_reducible refine gate_store (t := 86) (p := 4) rfl ?_); go_must (refine ev_store HS 0 rfl rfl 86 (.tmp 4) (.tmp 8) rfl rfl rfl (mcL X.s (.slice Ac code.length cc) (.slice A n c) (.slice Ab nb cq) (.slice As X.n cs) (.slice At nt ct) win X.left) rfl (len_mach hs) (by rw [mcL_length hs]; rfl) (mcL_one (by simp [Value.oneCell'])) ?_); clear HS; intro w HS))
  replace HS : Sat W0 w (MB gy X.s (.slice Ac code.length cc) (.slice A n c) (.slice Ab nb cq) (.slice As X.n cs) (.slice At nt ct) win X.left :: blk g2 94 ptZ :: MB g X.s (.slice Ac code.length cc) (.slice A n c) (.slice Ab nb cq) (.slice As X.n cs) (.slice At nt ct) win X.left :: BQ (.slice Ab nb cq) X.buf :: row IW 2 (.slice A n c) X.mem :: SVD (.slice As X.n cs) X.saved X.n :: L) := HS
  have c71 : w.cell? ⟨g, 71, none⟩ = some (.slice Ab nb cq) := mcellT hs HS 2 rfl 2
  go_upto_region 3 with (go_at_call 43; (with_reducible refine (clone_calls 3 rfl (show X.buf.length ≤ 1000000 by omega) HS).mono ?_); rintro e w_ ⟨v, rfl, HS_⟩; clear HS c71; have HS := HS_; clear HS_; obtain ⟨Av, cv, rfl, _⟩ := HS.queSlice 0 rfl; obtain ⟨nv, hnv⟩ : ∃ nv, (X.buf.map wc).length = nv := ⟨_, rfl⟩; rw [hnv] at HS ⊢; have d71 : w_.cell? ⟨gy, 71, none⟩ = some (.slice Ab nb cq) := mcellT hs HS 1 rfl 2; have f71 : w_.frozen? ⟨gy, 71, none⟩ = false := HS.frozen 1 rfl 71)
  have HS2 := mb_set (vm' := .slice A n c) (vb' := .slice Av nv cv) (vs' := .slice As X.n cs) (left' := X.left) hs (HS.front 1 rfl) 2 (.slice Av nv cv) rfl
  clear HS d71 f71 hnv
  refine wp_sat HS2 (fun w HS => ?_)
  clear HS2
  replace HS : Sat W0 w (MB gy X.s (.slice Ac code.length cc) (.slice A n c) (.slice Av nv cv) (.slice As X.n cs) (.slice At nt ct) win X.left :: BQ (.slice Av nv cv) X.buf :: blk g2 94 ptZ :: MB g X.s (.slice Ac code.length cc) (.slice A n c) (.slice Ab nb cq) (.slice As X.n cs) (.slice At nt ct) win X.left :: BQ (.slice Ab nb cq) X.buf :: row IW 2 (.slice A n c) X.mem :: SVD (.slice As X.n cs) X.saved X.n :: L) := HS
  have c69 : w.cell? ⟨gy, 69, none⟩ = some (.slice Ac code.length cc) := mcellT hs HS 0 rfl 0
  replace HS : Sat W0 w (MB gy X.s (.slice Ac code.length cc) (.slice A n c) (.slice Av nv cv) (.slice As X.n cs) (.slice At nt ct) win X.left :: BQ (.slice Av nv cv) X.buf :: row IW 2 (.slice A n c) X.mem :: blk g2 94 ptZ :: MB g X.s (.slice Ac code.length cc) (.slice A n c) (.slice Ab nb cq) (.slice As X.n cs) (.slice At nt ct) win X.left :: BQ (.slice Ab nb cq) X.buf :: SVD (.slice As X.n cs) X.saved X.n :: L) := (HS.front 5 rfl).insert 2 (by simp)
  have HStep := Aside0.mk (show Calls Try.prog 19 #[.pointer (some ⟨gy, 0, none⟩), .slice Ac code.length cc, .iface 96 (.agg #[.pointer (some ⟨gy, 0, none⟩), .bool false])] w (fun e w' => ∃ v, e = .returned v ∧ Sat W0 w' (row k66 66 v r.2.2 :: vch gy A n c (.slice Ac code.length cc) (.slice As X.n cs) (.slice At nt ct) win X.left r.1 r.2.1 :: blk g2 94 ptZ :: MB g X.s (.slice Ac code.length cc) (.slice A n c) (.slice Ab nb cq) (.slice As X.n cs) (.slice At nt ct) win X.left :: BQ (.slice Ab nb cq) X.buf :: SVD (.slice As X.n cs) X.saved X.n :: L)) from by rw [HR0.out]; exact step_calls (c := cc) (sMem gy A n c (.slice Ac code.length cc) (.slice As X.n cs) (.slice At nt ct) win X.left false) (L := blk g2 94 ptZ :: MB g X.s (.slice Ac code.length cc) (.slice A n c) (.slice Ab nb cq) (.slice As X.n cs) (.slice At nt ct) win X.left :: BQ (.slice Ab nb cq) X.buf :: SVD (.slice As X.n cs) X.saved X.n :: L) (fun w h => hC w h.tail.tail.tail.tail) hfit (show X.buf.length ≤ 1000000 by omega) hs (m := ⟨X.mem, X.buf⟩) (vClose (m := ⟨X.mem, X.buf⟩) hs HS))
  go_upto_region 4 with (go_at_call 19; refine HStep.out.mono ?_; rintro e w_ ⟨v, rfl, HS_⟩; clear HS HStep c69; have HS := HS_; clear HS_; obtain ⟨Ao, co, rfl⟩ := HS.slice 0 rfl)
  obtain ⟨vb', _, HS2⟩ := vOpen HS.swap
  obtain ⟨Az, cz, rfl, _⟩ := HS2.queSlice 1 rfl
  obtain ⟨nz, hnz⟩ : ∃ nz, (r.2.1.buf.map wc).length = nz := ⟨_, rfl⟩
  rw [hnz] at HS2
  clear HS hnz
  refine wp_sat HS2 (fun w HS => ?_)
  clear HS2
  have c71 : w.cell? ⟨gy, 71, none⟩ = some (.slice Az nz cz) := mcellT hr HS 0 rfl 2
  obtain ⟨ln, hln⟩ : ∃ ln, r.2.2.length = ln := ⟨_, rfl⟩
  rw [hln]
  go_wp2_with (first | ((with_reducible refine gate_load (ty := 42) (p := 21) rfl ?_); go_must (refine ev_load_part HS 0 rfl rfl 42 (.tmp 21) rfl (N := 22) rfl 0 rfl _ Try.underlying42 rfl (stL r.1) (len32 hr) (fun j v hj => by rw [Nat.zero_add, List.getElem?_toArray, mcL_get hr j (by have := (List.getElem?_eq_some_iff.1 hj).1; rw [stL_length hr] at this; exact this)]; exact hj) ?_)) | ((with_reducible refine gate_dst (N := 25) rfl ?_); go_must (refine ev_build_point (N := 25) hr (v := .slice Az nz cz) rfl rfl rfl rfl rfl rfl ?_)) | ((with_reducible refine gate_store (t := 94) (p := 2) rfl ?_); go_must (refine ev_store HS 4 rfl rfl 94 (.tmp 2) (.tmp 25) rfl rfl rfl (stL r.1 ++ [.slice Az nz cz]) rfl (len_pt hr) (by rw [List.length_append, stL_length hr]; rfl) (by intro q hq; rcases List.mem_append.1 hq with h | h; exact stL_one _ q h; rw [List.mem_singleton.1 h]; rfl) ?_); clear HS; intro w HS))
  have k1 : Sat W0 w (row IW 2 (.slice A n c) r.2.1.mem :: BQ (.slice Az nz cz) r.2.1.buf :: row k66 66 (.slice Ao r.2.2.length co) r.2.2 :: MB g X.s (.slice Ac code.length cc) (.slice A n c) (.slice Ab nb cq) (.slice As X.n cs) (.slice At nt ct) win X.left :: BQ (.slice Ab nb cq) X.buf :: SVD (.slice As X.n cs) X.saved X.n :: L) := ((HS.tail).erase 3).front 1 rfl
  have k2 : Sat W0 w (BQ (.slice Az nz cz) r.2.1.buf :: row k66 66 (.slice Ao r.2.2.length co) r.2.2 :: MB g X.s (.slice Ac code.length cc) (.slice A n c) (.slice Ab nb cq) (.slice As X.n cs) (.slice At nt ct) win X.left :: BQ (.slice Ab nb cq) X.buf :: row IW 2 (.slice A n c) r.2.1.mem :: SVD (.slice As X.n cs) X.saved X.n :: L) := k1.insert 4 (by simp)
  have k3 : Sat W0 w (row k66 66 (.slice Ao r.2.2.length co) r.2.2 :: MB g X.s (.slice Ac code.length cc) (.slice A n c) (.slice Ab nb cq) (.slice As X.n cs) (.slice At nt ct) win X.left :: BQ (.slice Ab nb cq) X.buf :: row IW 2 (.slice A n c) r.2.1.mem :: SVD (.slice As X.n cs) X.saved X.n :: BQ (.slice Az nz cz) r.2.1.buf :: L) := k2.insert 5 (by simp)
  have k4 : Sat W0 w (MB g X.s (.slice Ac code.length cc) (.slice A n c) (.slice Ab nb cq) (.slice As X.n cs) (.slice At nt ct) win X.left :: BQ (.slice Ab nb cq) X.buf :: row IW 2 (.slice A n c) X.mem :: SVD (.slice As X.n cs) X.saved X.n :: row k66 66 (.slice Ao r.2.2.length co) r.2.2 :: BQ (.slice Az nz cz) r.2.1.buf :: L) := by rw [HKE.out] at k3; exact k3.insert 4 (by simp)
  have k5 : Sat W0 w (row k66 66 (.slice Ao r.2.2.length co) r.2.2 :: BQ (.slice Az nz cz) r.2.1.buf :: mch g A n c (.slice Ac code.length cc) (.slice At nt ct) win X :: L) := (mClose hs k4).insert 2 (by simp)
  rw [← hln]
  exact bodyPost_ret (v := .tuple #[.agg (stL r.1 ++ [Value.slice Az nz cz]).toArray, .slice Ao r.2.2.length co]) (results_ct (p := 2) (u := 3) (ty := 94) rfl _ w g2 _ _ _ _ rfl (HS.blk 4 rfl) Try.underlying94 rfl (size_pt hr)) rfl ⟨_, _, rfl, k5⟩

theorem info82 : (Try.prog.info? 94).map (fun i => (i.zero, i.size, i.bytes)) = some (some (.agg ptZ), 70, 576) := by kernel_rfl
theorem run_slit_point {pa : Array Value} (hp : pa.size = 70) (w : World) : (Instr.buildSlice 83 1 #[(0, .agg pa)]).run Try.prog w = .ok (.slice (some ⟨w.heap.size, 0, none⟩) 1 1) (w.alloc (.cells pa 94 (0, 0))) := by
  have h := info82
  cases hq : Try.prog.info? 94 with
  | none => rw [hq] at h; cases h
  | some ie =>
    rw [hq] at h
    simp only [Option.map_some, Option.some.injEq, Prod.mk.injEq] at h
    obtain ⟨h1, h2, h3⟩ := h
    refine run_buildSlice w _ 94 1 _ pa ie (.agg ptZ) Try.underlying83 hq h1 (by rw [h2]; omega) (by rw [h2]; omega) ?_
    rw [h2]
    have e := Great.fill_whole (s := 70) (by omega) [.agg pa] ((Array.range (1 * 70)).map ((Value.agg ptZ).cells[· % (Value.agg ptZ).cells.size]!)) (by intro v hv; rw [List.mem_singleton.1 hv]; exact hp) (by simp)
    simpa [Value.cells] using e
theorem run_slit_op {a : Act} {o : Oper} {x : Operand} {pa : Array Value} (hp : pa.size = 70) (ho : o.op = .buildSlice 83 1 #[(0, x)]) (hx : a.eval x = .agg pa) (w : World) : (execOp a.eval o).run Try.prog w = .ok (.value (.slice (some ⟨w.heap.size, 0, none⟩) 1 1)) (w.alloc (.cells pa 94 (0, 0))) := by
  unfold execOp
  simp only [ho, List.map_toArray, List.map_cons, List.map_nil, hx, Sem.run_bind, run_slit_point hp w, Result.andThen_ok, Sem.run_pure]
theorem whole_run {P : Program} {o : Oper} {a : Act} {g : Nat} {t : TypeId} {cs : Array Value} (HS : Sat W0 w L) (i : Nat) (hi : L[i]? = some (blk g t cs)) (ty : TypeId) (x : Operand) (ho : o.op = .load ty x) (hx : a.eval x = .pointer (some ⟨g, 0, none⟩)) (d : TypeDesc)
    (hu : P.underlying ty = some d) (hdd : (match d with | .struct _ | .array _ _ => true | _ => false) = true) (hin : (P.info? ty).map (·.size) = some cs.size) : (execOp a.eval o).run P w = .ok (.value (.agg cs)) w := by
  unfold execOp
  simp only [ho, hx, Instr.loadAt, Instr.sureAddr, Sem.run_bind, Sem.run_pure, Result.andThen_ok, run_loadVar_row w g t ty cs (0, 0) d (HS.blk i hi) hu hdd hin]
def guessF (win : Int) (p : St × List (Int × Int)) (X : SM) : SM := { X with saved := some (X.saved.getD p), n := X.n + 1, left := if X.saved.isSome = true then X.left else win }

set_option maxRecDepth 100000 in
set_option maxHeartbeats 2000000 in
theorem guess_none {X : SM} {s1 : St} {b1 : List (Int × Int)} {vp : Value} (hs1 : s1.regs.length = 64) (hv1 : vp.cells = #[vp]) (hv2 : vp.oneCell' = true) (hn : X.n ≤ 900000) (hp : X.saved = none) (HS : Sat W0 w (BQ vp b1 :: mch g A n c vc vt win X :: L)) :
    Calls Try.prog 41 #[.pointer (some ⟨g, 0, none⟩), .agg (stL s1 ++ [vp]).toArray] w fun e w' => e = .returned (.tuple #[]) ∧ Sat W0 w' (mch g A n c vc vt win { X with saved := some (s1, b1), n := X.n + 1, left := win } :: L) := by
  have h70 : (stL s1 ++ [vp]).toArray.size = 70 := by rw [List.size_toArray, List.length_append, stL_length hs1]; rfl
  obtain ⟨vb, vs, hs, HS⟩ := mOpen HS.swap
  obtain ⟨⟨As, cs, rfl, hcs⟩, hsv⟩ := svdSlice HS 3 rfl
  rw [hp] at hsv
  have hn0 : X.n = 0 := by have : ¬ 0 < X.n := by simpa using hsv.symm
                           omega
  have h0b : ((X.n : Int) == 0) = true := by rw [hn0]; rfl
  have HN0 := Aside0.mk hn0
  clear hn0
  clear hsv
  go_enter Try.func41, Try.ntmps41
  go_upto_region 1 with ((with_reducible refine gate_dst (N := 3) rfl ?_); go_must (refine ev_box HS rfl (N := 3) rfl (cs := (stL s1 ++ [vp]).toArray) (t := 94) ?hrun ?_); (case hrun => first | (go_simp; done) | (go_simp; rfl)); clear HS; intro g3 w HS)
  have c72 : w.cell? ⟨g, 72, none⟩ = some (.slice As X.n cs) := mcellT hs HS 1 rfl 3
  have c74 : w.cell? ⟨g, 74, none⟩ = some (.int .i64 win) := mcellT hs HS 1 rfl 5
  have c75 : w.cell? ⟨g, 75, none⟩ = some (.int .i64 X.left) := mcellT hs HS 1 rfl 6
  have f75 : w.frozen? ⟨g, 75, none⟩ = false := HS.frozen 1 rfl 75
  go_upto_region 3 with (fail)
  have HS2 := mb_set (vm' := .slice A n c) (vb' := vb) (vs' := .slice As X.n cs) (left' := win) hs (HS.front 1 rfl) 6 (.int .i64 win) rfl
  refine wp_sat HS2 (fun w HS => ?_)
  clear HS2
  replace HS := HS.front 1 rfl
  clear c72 c74 c75 f75
  replace HS : Sat W0 w (MB g X.s vc (.slice A n c) vb (.slice As X.n cs) vt win win :: blk g3 94 (stL s1 ++ [vp]).toArray :: BQ vb X.buf :: row IW 2 (.slice A n c) X.mem :: SVD (.slice As X.n cs) X.saved X.n :: BQ vp b1 :: L) := HS.swap
  replace HS := HS.front 4 rfl
  rw [hp] at HS
  replace HS := (Sat.split HS).tail
  replace HS : Sat W0 w (MB g X.s vc (.slice A n c) vb (.slice As X.n cs) vt win win :: blk g3 94 (stL s1 ++ [vp]).toArray :: que 94 70 (.slice As X.n cs) [] :: BQ vb X.buf :: row IW 2 (.slice A n c) X.mem :: BQ vp b1 :: L) := (HS.front 1 rfl).front 2 rfl |>.swap
  refine start_ (n := 11) (S := fun w' => ∃ L', Sat W0 w' (MB g X.s vc (.slice A n c) vb (.slice As X.n cs) vt win win :: blk g3 94 (stL s1 ++ [vp]).toArray :: L')) (ds := [10]) #[false, false, false, false, false, false, false, false, false, false, false] (by kernel_rfl) rfl rfl ⟨_, HS.drew⟩ (fun hHeld => ?_)
  replace HS := HS.drew
  generalize World.drew w = w at HS hHeld ⊢
  refine pure_ (i := 0) (N := some 17) (v := ?_) (a' := ?_) #[true, false, false, false, false, false, false, false, false, false, false] rfl rfl (by kernel_rfl) (fun _ _ _ h => h) (Or.inl ⟨by rfl, ?_⟩) ?_ ?_
  rotate_left
  · intro w'
    go_simp
    with_reducible rfl
  rotate_left
  · (try simp only [Act.put, List.setIfInBounds_toArray, List.set_cons_zero, List.set_cons_succ, i64_w, i32_w])
    rfl
  refine pure_ (i := 1) (N := some 18) (v := ?_) (a' := ?_) #[true, true, false, false, false, false, false, false, false, false, false] rfl rfl (by kernel_rfl) (fun _ _ _ h => h) (Or.inl ⟨by rfl, ?_⟩) ?_ ?_
  rotate_left
  · intro w'
    go_simp
    with_reducible rfl
  rotate_left
  · (try simp only [Act.put, List.setIfInBounds_toArray, List.set_cons_zero, List.set_cons_succ, i64_w, i32_w])
    rfl
  refine pure_ (i := 2) (N := some 19) (v := ?_) (a' := ?_) #[true, true, true, false, false, false, false, false, false, false, false] rfl rfl (by kernel_rfl) (fun _ _ _ h => h) (Or.inl ⟨by rfl, ?_⟩) ?_ ?_
  rotate_left
  · intro w'
    go_simp
    with_reducible rfl
  rotate_left
  · (try simp only [Act.put, List.setIfInBounds_toArray, List.set_cons_zero, List.set_cons_succ, i64_w, i32_w])
    rfl
  refine pure_ (i := 3) (N := some 20) (v := ?_) (a' := ?_) #[true, true, true, true, false, false, false, false, false, false, false] rfl rfl (by kernel_rfl) (fun _ _ _ h => h) (Or.inl ⟨by rfl, ?_⟩) ?_ ?_
  rotate_left
  · intro w'
    go_simp
    with_reducible rfl
  rotate_left
  · (try simp only [Act.put, List.setIfInBounds_toArray, List.set_cons_zero, List.set_cons_succ, i64_w, i32_w])
    rfl
  refine take_ (i := 4) (N := some 21) (v := ?_) (a' := ?_) #[true, true, true, true, true, false, false, false, false, false, false] rfl rfl (by kernel_rfl) (fun _ _ _ h => h) (Or.inl ⟨by rfl, ?_⟩) hHeld ?_ ?_
  rotate_left
  · rintro w' hS
    obtain ⟨L', hS⟩ := hS
    have c72 : w'.cell? ⟨g, 72, none⟩ = some (.slice As X.n cs) := mcellT hs hS 0 rfl 3
    go_simp
    with_reducible rfl
  rotate_left
  · (try simp only [Act.put, List.setIfInBounds_toArray, List.set_cons_zero, List.set_cons_succ, i64_w, i32_w])
    rfl
  refine take_ (i := 5) (N := some 22) (v := ?_) (a' := ?_) #[true, true, true, true, true, true, false, false, false, false, false] rfl rfl (by kernel_rfl) (fun _ _ _ h => h) (Or.inl ⟨by rfl, ?_⟩) hHeld ?_ ?_
  rotate_left
  · rintro w' hS
    obtain ⟨L', hS⟩ := hS
    have c72 : w'.cell? ⟨g, 72, none⟩ = some (.slice As X.n cs) := mcellT hs hS 0 rfl 3
    refine whole_run hS 1 rfl 94 (.tmp 3) ?_ ?_ _ Try.underlying94 rfl (size_pt hs1) <;> rfl
  rotate_left
  · (try simp only [Act.put, List.setIfInBounds_toArray, List.set_cons_zero, List.set_cons_succ, i64_w, i32_w])
    rfl
  refine one_ (i := 6) (N := some 23) #[true, true, true, true, true, true, true, false, false, false, false] rfl rfl (by kernel_rfl) (by decide) (fun K hK => ?_)
  refine ev_slit_step HS (by rfl) (N := 23) rfl (cs := (stL s1 ++ [vp]).toArray) (t := 94) (run_slit_op h70 rfl rfl _) ?_
  clear HS
  intro gl w HS
  refine hK.out _ _ ⟨_, HS.tail⟩ (fun hHeld => ?_)
  clear hK K
  refine norm_ (a' := ?_) ?_ ?_
  rotate_left
  · show Act.put _ _ _ = _
    (try simp only [Act.put, List.setIfInBounds_toArray, List.set_cons_zero, List.set_cons_succ, i64_w, i32_w])
    rfl
  refine one_ (i := 7) (N := some 24) #[true, true, true, true, true, true, true, true, false, false, false] rfl rfl (by kernel_rfl) (by decide) (fun K hK => ?_)
  refine ev_qapp_step HS 2 rfl (.tmp 21) (.tmp 23) 83 (.agg ptZ) 576 1 (by rfl) (N := 24) rfl rfl (by rfl) (by rfl) Try.underlying83 info82 rfl (by decide) h70 (by intro q hq; rcases List.mem_append.1 hq with h | h; exact stL_one _ q h; rw [List.mem_singleton.1 h]; exact hv2) (by simp) (by decide) ?_
  clear HS
  intro vo w HS
  obtain ⟨Av, cv, rfl, hcv⟩ := HS.queSlice 2 rfl
  obtain ⟨lv, hlv⟩ : ∃ lv, lv = ([] ++ [(stL s1 ++ [vp]).toArray.toList]).length := ⟨_, rfl⟩
  rw [← hlv] at HS ⊢
  refine hK.out _ _ ⟨_, HS⟩ (fun hHeld => ?_)
  clear hK K
  refine norm_ (a' := ?_) ?_ ?_
  rotate_left
  · show Act.put _ _ _ = _
    (try simp only [Act.put, List.setIfInBounds_toArray, List.set_cons_zero, List.set_cons_succ, i64_w, i32_w])
    rfl
  refine pure_ (i := 8) (N := some 25) (v := ?_) (a' := ?_) #[true, true, true, true, true, true, true, true, true, false, false] rfl rfl (by kernel_rfl) (fun _ _ _ h => h) (Or.inl ⟨by rfl, ?_⟩) ?_ ?_
  rotate_left
  · intro w'
    go_simp
    with_reducible rfl
  rotate_left
  · (try simp only [Act.put, List.setIfInBounds_toArray, List.set_cons_zero, List.set_cons_succ, i64_w, i32_w])
    rfl
  refine pure_ (i := 9) (N := some 26) (v := ?_) (a' := ?_) #[true, true, true, true, true, true, true, true, true, true, false] rfl rfl (by kernel_rfl) (fun _ _ _ h => h) (Or.inl ⟨by rfl, ?_⟩) ?_ ?_
  rotate_left
  · intro w'
    go_simp
    with_reducible rfl
  rotate_left
  · (try simp only [Act.put, List.setIfInBounds_toArray, List.set_cons_zero, List.set_cons_succ, i64_w, i32_w])
    rfl
  refine last_ (i := 10) (N := none) #[true, true, true, true, true, true, true, true, true, true, true] rfl rfl (by kernel_rfl) (by decide) (fun K hK => ?_)
  have c72 : w.cell? ⟨g, 72, none⟩ = some (.slice As X.n cs) := mcellT hs HS 0 rfl 3
  have f72 : w.frozen? ⟨g, 72, none⟩ = false := HS.frozen 0 rfl 72
  refine ev_put_step HS 0 rfl 72 (by rfl) rfl (v := .slice Av lv cv) ?hrun ?_
  (case hrun => go_simp; first | done | rfl)
  clear c72 f72
  intro w HS1
  have e72 : (mcL X.s vc (.slice A n c) vb (.slice As X.n cs) vt win win).toArray.setIfInBounds 72 (.slice Av lv cv) = (mcL X.s vc (.slice A n c) vb (.slice Av lv cv) vt win win).toArray := by rw [mcL_setTail hs 3 (.slice Av lv cv) rfl, List.setIfInBounds_toArray]
  rw [e72] at HS1
  clear HS e72
  have HS : Sat W0 w (MB g X.s vc (.slice A n c) vb (.slice Av lv cv) vt win win :: blk g3 94 (stL s1 ++ [vp]).toArray :: que 94 70 (.slice Av lv cv) ([] ++ [(stL s1 ++ [vp]).toArray.toList]) :: BQ vb X.buf :: row IW 2 (.slice A n c) X.mem :: BQ vp b1 :: L) := HS1
  clear HS1
  refine hK.out _ _ ?_
  clear hK K
  refine done_ (by kernel_rfl) ?_
  clear hHeld
  clear hp
  have k1 : Sat W0 w (que 94 70 (.slice Av lv cv) [stL s1 ++ [vp]] :: BQ vp b1 :: MB g X.s vc (.slice A n c) vb (.slice Av lv cv) vt win win :: BQ vb X.buf :: row IW 2 (.slice A n c) X.mem :: L) := ((HS.erase 1).front 4 rfl).front 2 rfl
  have k2 : Sat W0 w (SVD (.slice Av lv cv) (some (s1, b1)) (X.n + 1) :: MB g X.s vc (.slice A n c) vb (.slice Av lv cv) vt win win :: BQ vb X.buf :: row IW 2 (.slice A n c) X.mem :: L) := Sat.closeEx ⟨(vp, []), by have := HN0.out; simp [this], hs1⟩ k1.join
  clear HS
  have HS := mClose (X := { X with saved := some (s1, b1), n := X.n + 1, left := win }) (vb := vb) (vs := .slice Av lv cv) hs (k2.insert 3 (by simp))
  clear k1 k2
  go_wp2
  go_end0
  exact ⟨rfl, HS⟩

set_option maxRecDepth 100000 in
set_option maxHeartbeats 2000000 in
theorem guess_some {X : SM} {s1 : St} {b1 : List (Int × Int)} {vp : Value} (hs1 : s1.regs.length = 64) (hv1 : vp.cells = #[vp]) (hv2 : vp.oneCell' = true) (hn : X.n ≤ 900000) {p : St × List (Int × Int)} (hp : X.saved = some p) (HS : Sat W0 w (BQ vp b1 :: mch g A n c vc vt win X :: L)) :
    Calls Try.prog 41 #[.pointer (some ⟨g, 0, none⟩), .agg (stL s1 ++ [vp]).toArray] w fun e w' => e = .returned (.tuple #[]) ∧ Sat W0 w' (mch g A n c vc vt win { X with saved := some p, n := X.n + 1, left := X.left } :: L) := by
  have h70 : (stL s1 ++ [vp]).toArray.size = 70 := by rw [List.size_toArray, List.length_append, stL_length hs1]; rfl
  obtain ⟨vb, vs, hs, HS⟩ := mOpen HS.swap
  obtain ⟨⟨As, cs, rfl, hcs⟩, hsv⟩ := svdSlice HS 3 rfl
  rw [hp] at hsv
  have h0b : ((X.n : Int) == 0) = false := by
    have : 0 < X.n := by simpa using hsv.symm
    exact beq_eq_false_iff_ne.mpr (by omega)
  clear hsv
  go_enter Try.func41, Try.ntmps41
  go_upto_region 1 with ((with_reducible refine gate_dst (N := 3) rfl ?_); go_must (refine ev_box HS rfl (N := 3) rfl (cs := (stL s1 ++ [vp]).toArray) (t := 94) ?hrun ?_); (case hrun => first | (go_simp; done) | (go_simp; rfl)); clear HS; intro g3 w HS)
  have c72 : w.cell? ⟨g, 72, none⟩ = some (.slice As X.n cs) := mcellT hs HS 1 rfl 3
  go_upto_region 3 with (fail)
  clear c72
  replace HS : Sat W0 w (MB g X.s vc (.slice A n c) vb (.slice As X.n cs) vt win X.left :: blk g3 94 (stL s1 ++ [vp]).toArray :: BQ vb X.buf :: row IW 2 (.slice A n c) X.mem :: SVD (.slice As X.n cs) X.saved X.n :: BQ vp b1 :: L) := HS.swap
  replace HS := HS.front 4 rfl
  rw [hp] at HS
  obtain ⟨⟨⟨v0, cl⟩, hnn, hs0⟩, HS⟩ := Sat.openEx HS
  replace HS := Sat.split HS
  dsimp only at HS hnn hs0
  obtain ⟨s0, b0⟩ := p
  dsimp only at HS hs0
  have HNN := Aside0.mk hnn
  clear hnn
  replace HS : Sat W0 w (MB g X.s vc (.slice A n c) vb (.slice As X.n cs) vt win X.left :: blk g3 94 (stL s1 ++ [vp]).toArray :: que 94 70 (.slice As X.n cs) ((stL s0 ++ [v0]) :: cl) :: BQ v0 b0 :: BQ vb X.buf :: row IW 2 (.slice A n c) X.mem :: BQ vp b1 :: L) := (HS.front 2 rfl).front 3 rfl |>.swap
  refine start_ (n := 11) (S := fun w' => ∃ L', Sat W0 w' (MB g X.s vc (.slice A n c) vb (.slice As X.n cs) vt win X.left :: blk g3 94 (stL s1 ++ [vp]).toArray :: L')) (ds := [10]) #[false, false, false, false, false, false, false, false, false, false, false] (by kernel_rfl) rfl rfl ⟨_, HS.drew⟩ (fun hHeld => ?_)
  replace HS := HS.drew
  generalize World.drew w = w at HS hHeld ⊢
  refine pure_ (i := 0) (N := some 17) (v := ?_) (a' := ?_) #[true, false, false, false, false, false, false, false, false, false, false] rfl rfl (by kernel_rfl) (fun _ _ _ h => h) (Or.inl ⟨by rfl, ?_⟩) ?_ ?_
  rotate_left
  · intro w'
    go_simp
    with_reducible rfl
  rotate_left
  · (try simp only [Act.put, List.setIfInBounds_toArray, List.set_cons_zero, List.set_cons_succ, i64_w, i32_w])
    rfl
  refine pure_ (i := 1) (N := some 18) (v := ?_) (a' := ?_) #[true, true, false, false, false, false, false, false, false, false, false] rfl rfl (by kernel_rfl) (fun _ _ _ h => h) (Or.inl ⟨by rfl, ?_⟩) ?_ ?_
  rotate_left
  · intro w'
    go_simp
    with_reducible rfl
  rotate_left
  · (try simp only [Act.put, List.setIfInBounds_toArray, List.set_cons_zero, List.set_cons_succ, i64_w, i32_w])
    rfl
  refine pure_ (i := 2) (N := some 19) (v := ?_) (a' := ?_) #[true, true, true, false, false, false, false, false, false, false, false] rfl rfl (by kernel_rfl) (fun _ _ _ h => h) (Or.inl ⟨by rfl, ?_⟩) ?_ ?_
  rotate_left
  · intro w'
    go_simp
    with_reducible rfl
  rotate_left
  · (try simp only [Act.put, List.setIfInBounds_toArray, List.set_cons_zero, List.set_cons_succ, i64_w, i32_w])
    rfl
  refine pure_ (i := 3) (N := some 20) (v := ?_) (a' := ?_) #[true, true, true, true, false, false, false, false, false, false, false] rfl rfl (by kernel_rfl) (fun _ _ _ h => h) (Or.inl ⟨by rfl, ?_⟩) ?_ ?_
  rotate_left
  · intro w'
    go_simp
    with_reducible rfl
  rotate_left
  · (try simp only [Act.put, List.setIfInBounds_toArray, List.set_cons_zero, List.set_cons_succ, i64_w, i32_w])
    rfl
  refine take_ (i := 4) (N := some 21) (v := ?_) (a' := ?_) #[true, true, true, true, true, false, false, false, false, false, false] rfl rfl (by kernel_rfl) (fun _ _ _ h => h) (Or.inl ⟨by rfl, ?_⟩) hHeld ?_ ?_
  rotate_left
  · rintro w' hS
    obtain ⟨L', hS⟩ := hS
    have c72 : w'.cell? ⟨g, 72, none⟩ = some (.slice As X.n cs) := mcellT hs hS 0 rfl 3
    go_simp
    with_reducible rfl
  rotate_left
  · (try simp only [Act.put, List.setIfInBounds_toArray, List.set_cons_zero, List.set_cons_succ, i64_w, i32_w])
    rfl
  refine take_ (i := 5) (N := some 22) (v := ?_) (a' := ?_) #[true, true, true, true, true, true, false, false, false, false, false] rfl rfl (by kernel_rfl) (fun _ _ _ h => h) (Or.inl ⟨by rfl, ?_⟩) hHeld ?_ ?_
  rotate_left
  · rintro w' hS
    obtain ⟨L', hS⟩ := hS
    have c72 : w'.cell? ⟨g, 72, none⟩ = some (.slice As X.n cs) := mcellT hs hS 0 rfl 3
    refine whole_run hS 1 rfl 94 (.tmp 3) ?_ ?_ _ Try.underlying94 rfl (size_pt hs1) <;> rfl
  rotate_left
  · (try simp only [Act.put, List.setIfInBounds_toArray, List.set_cons_zero, List.set_cons_succ, i64_w, i32_w])
    rfl
  refine one_ (i := 6) (N := some 23) #[true, true, true, true, true, true, true, false, false, false, false] rfl rfl (by kernel_rfl) (by decide) (fun K hK => ?_)
  refine ev_slit_step HS (by rfl) (N := 23) rfl (cs := (stL s1 ++ [vp]).toArray) (t := 94) (run_slit_op h70 rfl rfl _) ?_
  clear HS
  intro gl w HS
  refine hK.out _ _ ⟨_, HS.tail⟩ (fun hHeld => ?_)
  clear hK K
  refine norm_ (a' := ?_) ?_ ?_
  rotate_left
  · show Act.put _ _ _ = _
    (try simp only [Act.put, List.setIfInBounds_toArray, List.set_cons_zero, List.set_cons_succ, i64_w, i32_w])
    rfl
  refine one_ (i := 7) (N := some 24) #[true, true, true, true, true, true, true, true, false, false, false] rfl rfl (by kernel_rfl) (by decide) (fun K hK => ?_)
  refine ev_qapp_step HS 2 rfl (.tmp 21) (.tmp 23) 83 (.agg ptZ) 576 1 (by rfl) (N := 24) rfl rfl (by rfl) (by rfl) Try.underlying83 info82 rfl (by decide) h70 (by intro q hq; rcases List.mem_append.1 hq with h | h; exact stL_one _ q h; rw [List.mem_singleton.1 h]; exact hv2) (by have := HNN.out; simp only [List.length_cons]; omega) (by decide) ?_
  clear HS
  intro vo w HS
  obtain ⟨Av, cv, rfl, hcv⟩ := HS.queSlice 2 rfl
  obtain ⟨lv, hlv⟩ : ∃ lv, lv = (((stL s0 ++ [v0]) :: cl) ++ [(stL s1 ++ [vp]).toArray.toList]).length := ⟨_, rfl⟩
  rw [← hlv] at HS ⊢
  refine hK.out _ _ ⟨_, HS⟩ (fun hHeld => ?_)
  clear hK K
  refine norm_ (a' := ?_) ?_ ?_
  rotate_left
  · show Act.put _ _ _ = _
    (try simp only [Act.put, List.setIfInBounds_toArray, List.set_cons_zero, List.set_cons_succ, i64_w, i32_w])
    rfl
  refine pure_ (i := 8) (N := some 25) (v := ?_) (a' := ?_) #[true, true, true, true, true, true, true, true, true, false, false] rfl rfl (by kernel_rfl) (fun _ _ _ h => h) (Or.inl ⟨by rfl, ?_⟩) ?_ ?_
  rotate_left
  · intro w'
    go_simp
    with_reducible rfl
  rotate_left
  · (try simp only [Act.put, List.setIfInBounds_toArray, List.set_cons_zero, List.set_cons_succ, i64_w, i32_w])
    rfl
  refine pure_ (i := 9) (N := some 26) (v := ?_) (a' := ?_) #[true, true, true, true, true, true, true, true, true, true, false] rfl rfl (by kernel_rfl) (fun _ _ _ h => h) (Or.inl ⟨by rfl, ?_⟩) ?_ ?_
  rotate_left
  · intro w'
    go_simp
    with_reducible rfl
  rotate_left
  · (try simp only [Act.put, List.setIfInBounds_toArray, List.set_cons_zero, List.set_cons_succ, i64_w, i32_w])
    rfl
  refine last_ (i := 10) (N := none) #[true, true, true, true, true, true, true, true, true, true, true] rfl rfl (by kernel_rfl) (by decide) (fun K hK => ?_)
  have c72 : w.cell? ⟨g, 72, none⟩ = some (.slice As X.n cs) := mcellT hs HS 0 rfl 3
  have f72 : w.frozen? ⟨g, 72, none⟩ = false := HS.frozen 0 rfl 72
  refine ev_put_step HS 0 rfl 72 (by rfl) rfl (v := .slice Av lv cv) ?hrun ?_
  (case hrun => go_simp; first | done | rfl)
  clear c72 f72
  intro w HS1
  have e72 : (mcL X.s vc (.slice A n c) vb (.slice As X.n cs) vt win X.left).toArray.setIfInBounds 72 (.slice Av lv cv) = (mcL X.s vc (.slice A n c) vb (.slice Av lv cv) vt win X.left).toArray := by rw [mcL_setTail hs 3 (.slice Av lv cv) rfl, List.setIfInBounds_toArray]
  rw [e72] at HS1
  clear HS e72
  have HS : Sat W0 w (MB g X.s vc (.slice A n c) vb (.slice Av lv cv) vt win X.left :: blk g3 94 (stL s1 ++ [vp]).toArray :: que 94 70 (.slice Av lv cv) (((stL s0 ++ [v0]) :: cl) ++ [(stL s1 ++ [vp]).toArray.toList]) :: BQ v0 b0 :: BQ vb X.buf :: row IW 2 (.slice A n c) X.mem :: BQ vp b1 :: L) := HS1
  clear HS1
  refine hK.out _ _ ?_
  clear hK K
  refine done_ (by kernel_rfl) ?_
  clear hHeld
  clear hp
  have k1 : Sat W0 w (que 94 70 (.slice Av lv cv) ((stL s0 ++ [v0]) :: (cl ++ [stL s1 ++ [vp]])) :: BQ v0 b0 :: MB g X.s vc (.slice A n c) vb (.slice Av lv cv) vt win X.left :: BQ vb X.buf :: row IW 2 (.slice A n c) X.mem :: L) := (((HS.erase 1).erase 5).front 2 rfl).front 2 rfl
  have k2 : Sat W0 w (SVD (.slice Av lv cv) (some (s0, b0)) (X.n + 1) :: MB g X.s vc (.slice A n c) vb (.slice Av lv cv) vt win X.left :: BQ vb X.buf :: row IW 2 (.slice A n c) X.mem :: L) := Sat.closeEx ⟨(v0, cl ++ [stL s1 ++ [vp]]), by have := HNN.out; simp only [List.length_append, List.length_singleton]; omega, hs0⟩ k1.join
  clear HS
  have HS := mClose (X := { X with saved := some (s0, b0), n := X.n + 1, left := X.left }) (vb := vb) (vs := .slice Av lv cv) hs (k2.insert 3 (by simp))
  clear k1 k2
  go_wp2
  go_end0
  exact ⟨rfl, HS⟩

theorem guess_calls {X : SM} {s1 : St} {b1 : List (Int × Int)} {vp : Value} (hs1 : s1.regs.length = 64) (hv1 : vp.cells = #[vp]) (hv2 : vp.oneCell' = true) (hn : X.n ≤ 900000) (HS : Sat W0 w (BQ vp b1 :: mch g A n c vc vt win X :: L)) :
    Calls Try.prog 41 #[.pointer (some ⟨g, 0, none⟩), .agg (stL s1 ++ [vp]).toArray] w fun e w' => e = .returned (.tuple #[]) ∧ Sat W0 w' (mch g A n c vc vt win (guessF win (s1, b1) X) :: L) := by
  unfold guessF
  cases hp : X.saved with
  | none => exact guess_none hs1 hv1 hv2 hn hp HS
  | some p => exact guess_some hs1 hv1 hv2 hn hp HS

end
end Go.Proofs.Ytkgoljbimblkhaa.B
