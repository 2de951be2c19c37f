/- Parsing: Program. -/
import Derived.Test.YtenkganofobioaaDoorPaFunc
namespace Go.Proofs.YtenkganofobioaaDoor.B
open Go.RowKit Go.Proofs.YtenkganofobioaaDoor.Mine Go.Proofs.YtenkganofobioaaDoor.Sep Go.Proofs.YtenkganofobioaaDoorW.PrintWords Go.Proofs.YtenkganofobioaaDoorW.PrintLast Go.Proofs.YtenkganofobioaaDoorW.PrintMore
set_option linter.unusedVariables false
set_option linter.unusedSimpArgs false
attribute [local go_sem] Instr.field asAgg
theorem results_cc {P : Program} {fn : Func} {p q : Tmp} {ty ty' : TypeId} (h : fn.results = #[.cell p ty, .cell q ty']) (tmps : Array Value) (w : World) (g g' : Nat) (t t' : TypeId) (cs cs' : Array Value) (fr fr' : Nat × Nat) (d d' : TypeDesc)
    (hp : tmps.getD p undef = .pointer (some ⟨g, 0, none⟩)) (hg : w.heap[g]? = some (.cells cs t fr)) (hu : P.underlying ty = some d) (hd : (match d with | .struct _ | .array _ _ => true | _ => false) = true) (hi : (P.info? ty).map (·.size) = some cs.size)
    (hp2 : tmps.getD q undef = .pointer (some ⟨g', 0, none⟩)) (hg2 : w.heap[g']? = some (.cells cs' t' fr')) (hu2 : P.underlying ty' = some d') (hd2 : (match d' with | .struct _ | .array _ _ => true | _ => false) = true) (hi2 : (P.info? ty').map (·.size) = some cs'.size) :
    (results fn tmps).run P w = .ok (.tuple #[.agg cs, .agg cs']) w := by
  have hp' : tmps[p]?.getD undef = .pointer (some ⟨g, 0, none⟩) := by simpa using hp
  have hp2' : tmps[q]?.getD undef = .pointer (some ⟨g', 0, none⟩) := by simpa using hp2
  simp [results, h, hp', hp2', asAddr, run_loadVar_row w g t ty cs fr d hg hu hd hi, run_loadVar_row w g' t' ty' cs' fr' d' hg2 hu2 hd2 hi2]
theorem ret_cc {P : Program} {W0 w : World} {L : List Chunk} {a : Act} {fn : Func} {R : Ending → World → Prop} {p q : Tmp} {ty ty' : TypeId} {g g' : Nat} {t t' : TypeId} {cs cs' : Array Value} (HS : Sat W0 w L) (i j : Nat) (hi : L[i]? = some (blk g t cs)) (hj : L[j]? = some (blk g' t' cs')) (hres : fn.results = #[.cell p ty, .cell q ty'])
    (hp : a.tmps.getD p undef = .pointer (some ⟨g, 0, none⟩)) (hq : a.tmps.getD q undef = .pointer (some ⟨g', 0, none⟩)) (d d' : TypeDesc) (hu : P.underlying ty = some d) (hu' : P.underlying ty' = some d') (hdd : (match d with | .struct _ | .array _ _ => true | _ => false) = true) (hdd' : (match d' with | .struct _ | .array _ _ => true | _ => false) = true)
    (hin : (P.info? ty).map (·.size) = some cs.size) (hin' : (P.info? ty').map (·.size) = some cs'.size) (hdf : a.defers = []) (hR : R (.returned (.tuple #[.agg cs, .agg cs'])) w) : bodyPost P fn R .ret a w :=
  bodyPost_ret (v := .tuple #[.agg cs, .agg cs']) (results_cc hres a.tmps w g g' t t' cs cs' (0, 0) (0, 0) d d' hp (HS.blk i hi) hu hdd hin hq (HS.blk j hj) hu' hdd' hin') hdf hR
theorem part_hbo {P : Program} {o : Oper} {a : Act} {W0 w : World} {g : Nat} {t : TypeId} {cs : Array Value} (HS : HasB W0 w (blk g t cs)) (off : Nat) (ty : TypeId) (x : Operand) (ho : o.op = .load ty x) (hx : a.eval x = .pointer (some ⟨g, off, none⟩)) (d : TypeDesc)
    (hu : P.underlying ty = some d) (hdd : (match d with | .struct _ | .array _ _ => true | _ => false) = true) (vs : List Value) (hin : (P.info? ty).map (·.size) = some vs.length) (hv : ∀ (j : Nat) (v : Value), vs[j]? = some v → cs[off + j]? = some v) : (execOp a.eval o).run P w = .ok (.value (.agg vs.toArray)) w := by
  obtain ⟨L, i, hi, HS⟩ := HS
  unfold execOp
  simp only [ho, hx, Instr.loadAt, Instr.sureAddr, Sem.run_bind, Sem.run_pure, Result.andThen_ok, run_loadVar_part w g t ty cs off vs d (HS.blk i hi) hu hdd hin hv]
theorem infoG : (Tryd.prog.info? 75).map (fun i => (i.zero, i.size, i.bytes)) = some (some (.agg #[.string ⟨#[]⟩, .int .i64 0, .int .i64 0, .int .i64 0, .int .i64 0]), 5, 48) := by kernel_rfl
theorem infoF : (Tryd.prog.info? 41).map (fun i => (i.zero, i.size, i.bytes)) = some (some (.agg #[.string ⟨#[]⟩, .slice none 0 0, .slice none 0 0, .int .i64 0, .int .i64 0]), 5, 80) := by kernel_rfl
theorem repsG (w : World) (g : GB) : Reps (k75.M w 0 (fun _ => False)) k75.sz [g] (gbA g) := (Reps.none _ _).snoc (ps := []) (cs := []) (k75_mkM w 0 _ g) rfl
theorem row_fu {W0 w : World} {L : List Chunk} {g : Nat} (x : FU) {v1 v2 : Value} (HS : Sat W0 w (blk g 41 (fuA x v1 v2).toArray :: fuV x v1 v2 :: L)) : Sat W0 w (row k41 41 (.slice (some ⟨g, 0, none⟩) 1 1) [x] :: L) := HS.gather1
/-- What Program answers. -/
def ProgR (W0 : World) (L : List Chunk) (r : Parsed) (e : Ending) (w' : World) : Prop := match r with
  | .prog gs fs => ∃ (A B : Option Addr) (a b : Nat), e = .returned (.tuple #[.agg #[.slice A gs.length a, .slice B fs.length b], .agg #[.int .i64 0, .int .i64 0, .int .i64 0]]) ∧ Sat W0 w' (row k75 75 (.slice A gs.length a) gs :: row k41 41 (.slice B fs.length b) fs :: L)
  | .fault n l c => n ≠ 0 ∧ e = .returned (.tuple #[.agg #[.slice none 0 0, .slice none 0 0], .agg #[.int .i64 n, .int .i64 l, .int .i64 c]]) ∧ Sat W0 w' L
theorem nxt_err {r1 : List UInt8} {l c : Int} {n : Nat} {e : Int} {m : Nat} (h : nxtP r1 l c n = .err e m) : e = 10 ∨ e = 11 := by
  unfold nxtP at h
  split at h
  · cases h
  · split at h
    · cases h
    · split at h
      · split at h
        · injection h with h1 h2; exact .inr h1.symm
        · cases h
      · split at h
        · injection h with h1 h2; exact .inl h1.symm
        · cases h
theorem allP_err : ∀ (k : Nat) (r : List UInt8) (l c : Int) (e : Int × Int × Int), allP k r l c = some (.inr e) → e.1 = 10 ∨ e.1 = 11
  | 0, r, l, c, e, h => by rw [allP] at h; cases h
  | k + 1, r, l, c, e, h => by
    rw [allP] at h
    split at h
    · rename_i e1 n hn
      simp only [Option.some.injEq, Sum.inr.injEq] at h
      subst h
      exact nxt_err hn
    · split at h
      · simp at h
      · split at h
        · cases h
        · rename_i e1 hr
          simp only [Option.some.injEq, Sum.inr.injEq] at h
          subst h
          exact allP_err k _ _ _ _ hr
        · simp at h
/-- What a program's next part is. -/
def itemP (F : Fns) (s : PS) : Option (List GB × List FU × PS) :=
  if (takeP s (bs [118, 97, 114])).1 then some ([(globalP 0 (takeP s (bs [118, 97, 114])).2).1], [], (globalP 0 (takeP s (bs [118, 97, 114])).2).2)
  else if (takeP s (bs [112, 117, 98, 108, 105, 99])).1 then some ([(globalP 1 (takeP s (bs [112, 117, 98, 108, 105, 99])).2).1], [], (globalP 1 (takeP s (bs [112, 117, 98, 108, 105, 99])).2).2)
  else if (takeP s (bs [115, 101, 99, 114, 101, 116])).1 then some ([(globalP 2 (takeP s (bs [115, 101, 99, 114, 101, 116])).2).1], [], (globalP 2 (takeP s (bs [115, 101, 99, 114, 101, 116])).2).2)
  else if (takeP s (bs [102, 117, 110, 99])).1 then (match functionP F (takeP s (bs [102, 117, 110, 99])).2 with | none => none | some (f, s2) => some ([], [f], s2))
  else some ([], [], failP s 12)
def progQ (F : Fns) : Nat → List GB → List FU → PS → Option (List GB × List FU × PS)
  | 0, _, _, _ => none
  | k + 1, gs, fs, s =>
    if !badP s && (nowP s).f0 != 0 then (match itemP F s with | none => none | some (g, f, s2) => progQ F k (gs ++ g) (fs ++ f) s2)
    else some (gs, fs, s)
def parseQ (fuel : Nat) (s : List UInt8) : Option Parsed :=
  if 65536 < s.length then some (.fault 14 1 1)
  else match allP (s.length + 1) s 1 1 with
    | none => none
    | some (.inr e) => some (.fault e.1 e.2.1 e.2.2)
    | some (.inl ts) => match progQ (fnsF fuel) (ts.length + 2) [] [] ⟨ts, 0, 0, 0, 0⟩ with
      | none => none
      | some (gs, fs, s1) => some (if badP s1 then .fault s1.e s1.l s1.c else .prog gs fs)
theorem progQ_zero (F : Fns) (gs : List GB) (fs : List FU) (s : PS) (r : List GB × List FU × PS) : progQ F 0 gs fs s ≠ some r := by
  intro h
  rw [progQ] at h
  cases h
theorem rot2 {W0 w : World} {a b : Chunk} {L : List Chunk} (HS : Sat W0 w (a :: b :: L)) : Sat W0 w (b :: a :: L) := HS.swap
/-- A row that isn't empty lies somewhere. -/
theorem row_some {W0 w : World} {L : List Chunk} {v : Value} {ts : List TK} (h : 0 < ts.length) (HS : Sat W0 w (row k71 71 v ts :: L)) : ∃ (A0 : Addr) (c0 : Nat), v = .slice (some A0) ts.length c0 := by
  obtain ⟨A, c, rfl⟩ := HS.slice 0 rfl
  obtain ⟨ad, e, _⟩ := at_T71 (HS.C 0 rfl) 0 (Int.le_refl _) (by omega)
  exact ⟨ad, c, by rw [e]⟩
theorem ps_first (g : Nat) (A0 : Addr) (c0 : Nat) (ts : List TK) : psB g A0 c0 ts.length ⟨ts, 0, 0, 0, 0⟩ = blk g 68 #[.slice (some A0) ts.length c0, .int .i64 0, .int .i64 0, .int .i64 0, .int .i64 0] := by
  unfold psB
  simp only [Nat.sub_self, Nat.zero_mul, addr_zero, Nat.sub_zero]
set_option maxRecDepth 100000 in
set_option maxHeartbeats 8000000 in
theorem program_fault {W0 w : World} {L : List Chunk} (txt : List UInt8) (n l c : Int) (hn : n ≠ 0) (HA : ∀ (w : World) (M : List Chunk), OldIn W0 M → Sat W0 w M → Calls Tryd.prog 20 #[.string (bs txt)] w fun r w' => r = .returned (.tuple #[.slice none 0 0, .agg #[.int .i64 n, .int .i64 l, .int .i64 c]]) ∧ Sat W0 w' M) (ho : OldIn W0 L) (HS : Sat W0 w L) :
    Calls Tryd.prog 10 #[.string (bs txt)] w fun e w' => ProgR W0 L (.fault n l c) e w' := by
  have HOLD := Aside0.mk ho
  have HAL := Aside0.mk HA
  have hn0 := Aside0.mk hn
  have c1_ : (n != 0) = true := bne_iff_ne.2 hn
  clear ho HA hn
  go_enter Tryd.func10, Tryd.ntmps10
  go_upto_region 1 with (first | ((with_reducible refine gate_dst (N := 2) rfl ?_); go_must (refine ev_box HS rfl (N := 2) rfl (cs := #[.slice none 0 0, .slice none 0 0]) (t := 30) ?hrun ?_); (case hrun => first | (go_simp; done) | (go_simp; rfl)); clear HS; intro g2 w HS) | ((with_reducible refine gate_dst (N := 3) rfl ?_); go_must (refine ev_box HS rfl (N := 3) rfl (cs := #[.int .i64 0, .int .i64 0, .int .i64 0]) (t := 34) ?hrun ?_); (case hrun => first | (go_simp; done) | (go_simp; rfl)); clear HS; intro g3 w HS))
  go_upto_region 2 with (first | (go_at_call 20; refine (HAL.out _ _ (by repeat (first | exact HOLD.out | apply OldIn.cons)) HS).mono ?_; rintro e_ w_ ⟨rfl, HS_⟩; clear HS; have HS := HS_; clear HS_) | ((with_reducible refine gate_dst (N := 5) rfl ?_); go_must (refine ev_box HS rfl (N := 5) rfl (cs := #[.int .i64 0, .int .i64 0, .int .i64 0]) (t := 34) ?hrun ?_); (case hrun => first | (go_simp; done) | (go_simp; rfl)); clear HS; intro g5 w HS) | ((with_reducible refine gate_store (t := 34) (p := 5) rfl ?_); go_must (refine ev_store HS 0 rfl rfl 34 (.tmp 5) (.tmp 12) rfl rfl rfl [.int .i64 n, .int .i64 l, .int .i64 c] ?hx (by kernel_rfl) (by rfl) ?h1 ?_); (case hx => first | rfl | (go_simp; done)); (case h1 => simp [Value.oneCell']); clear HS; intro w HS))
  have cb0 := HS.cell 0 rfl
  go_upto_region 3 with (fail)
  clear cb0
  refine start_ (n := 4) (S := fun w' => HasB W0 w' (blk g5 34 #[.int .i64 n, .int .i64 l, .int .i64 c])) (ds := []) #[false, false, false, false] (by kernel_rfl) rfl rfl ⟨_, 0, rfl, HS.drew⟩ (fun hHeld => ?_)
  replace HS := HS.drew
  generalize World.drew w = w at HS hHeld ⊢
  refine pure_ (i := 0) (N := some 16) (v := ?_) (a' := ?_) #[true, false, false, false] rfl rfl (by kernel_rfl) (fun _ _ _ h => h) (Or.inl ⟨by rfl, ?_⟩) ?_ ?_
  rotate_left
  · intro w'
    go_simp
    with_reducible rfl
  rotate_left
  · (try simp only [Act.put, List.setIfInBounds_toArray, List.set_cons_zero, List.set_cons_succ, i64_w, i32_w])
    rfl
  refine take_ (i := 1) (N := some 17) (v := ?_) (a' := ?_) #[true, true, false, false] rfl rfl (by kernel_rfl) (fun _ _ _ h => h) (Or.inl ⟨by rfl, ?_⟩) hHeld ?_ ?_
  rotate_left
  · rintro w' hS
    refine whole_hb hS 34 (.tmp 5) ?_ ?_ _ Tryd.underlying34 rfl (by kernel_rfl) <;> rfl
  rotate_left
  · (try simp only [Act.put, List.setIfInBounds_toArray, List.set_cons_zero, List.set_cons_succ, i64_w, i32_w])
    rfl
  refine one_ (i := 2) (N := none) #[true, true, true, false] rfl rfl (by kernel_rfl) (by decide) (fun K hK => ?_)
  refine ev_store_step HS 2 rfl (by rfl) 30 (.tmp 2) (.tmp 16) rfl rfl rfl [.slice none 0 0, .slice none 0 0] rfl (by kernel_rfl) (by rfl) (by simp [Value.oneCell']) ?_
  clear HS
  intro w HS
  refine hK.out _ _ ⟨_, 0, rfl, HS⟩ (fun hHeld => ?_)
  clear hK K
  refine one_ (i := 3) (N := none) #[true, true, true, true] rfl rfl (by kernel_rfl) (by decide) (fun K hK => ?_)
  refine ev_store_step HS 1 rfl (by rfl) 34 (.tmp 3) (.tmp 17) rfl rfl rfl [.int .i64 n, .int .i64 l, .int .i64 c] rfl (by kernel_rfl) (by rfl) (by simp [Value.oneCell']) ?_
  clear HS
  intro w HS
  refine hK.out _ _ ⟨_, 0, rfl, HS⟩ (fun hHeld => ?_)
  clear hK K
  refine done_ (by kernel_rfl) ?_
  try clear hHeld
  go_wp2
  refine ret_cc HS 2 1 rfl rfl rfl rfl rfl _ _ Tryd.underlying30 Tryd.underlying34 rfl rfl (by kernel_rfl) (by kernel_rfl) rfl ?_
  exact ⟨hn0.out, rfl, HS.tail.tail.tail⟩
set_option maxRecDepth 100000 in
set_option maxHeartbeats 8000000 in
theorem program_loop {W0 w : World} {L : List Chunk} (hG : GL W0) (ho : OldIn W0 L) (txt : List UInt8) (fuel : Nat) (ts : List TK) (hts : ∃ us t, ts = us ++ [t] ∧ t.f0 = 0) (r : List GB × List FU × PS) (hp : progQ (fnsF fuel) (ts.length + 2) [] [] ⟨ts, 0, 0, 0, 0⟩ = some r)
    (HA : ∀ (w : World) (M : List Chunk), OldIn W0 M → Sat W0 w M → Calls Tryd.prog 20 #[.string (bs txt)] w fun r w' => ∃ v, r = .returned (.tuple #[v, .agg #[.int .i64 0, .int .i64 0, .int .i64 0]]) ∧ ts.length ≤ 65537 ∧ Sat W0 w' (row k71 71 v ts :: M)) (HS : Sat W0 w L) :
    Calls Tryd.prog 10 #[.string (bs txt)] w fun e w' => ProgR W0 L (if badP r.2.2 then .fault r.2.2.e r.2.2.l r.2.2.c else .prog r.1 r.2.1) e w' := by
  have HOLD := Aside0.mk ho
  have HGL := Aside0.mk hG
  have HAL := Aside0.mk HA
  have HTS := Aside0.mk hts
  have HPP := Aside0.mk hp
  have hpos : 0 < ts.length := by obtain ⟨us, t, rfl, _⟩ := hts; simp
  have HPS := Aside0.mk hpos
  obtain ⟨R, hR⟩ : ∃ R, R = (if badP r.2.2 then .fault r.2.2.e r.2.2.l r.2.2.c else .prog r.1 r.2.1 : Parsed) := ⟨_, rfl⟩
  rw [← hR]
  have HRR := Aside0.mk hR
  clear ho hG HA hts hp hpos hR
  go_enter Tryd.func10, Tryd.ntmps10
  go_upto_region 1 with (first | ((with_reducible refine gate_dst (N := 2) rfl ?_); go_must (refine ev_box HS rfl (N := 2) rfl (cs := #[.slice none 0 0, .slice none 0 0]) (t := 30) ?hrun ?_); (case hrun => first | (go_simp; done) | (go_simp; rfl)); clear HS; intro g2 w HS) | ((with_reducible refine gate_dst (N := 3) rfl ?_); go_must (refine ev_box HS rfl (N := 3) rfl (cs := #[.int .i64 0, .int .i64 0, .int .i64 0]) (t := 34) ?hrun ?_); (case hrun => first | (go_simp; done) | (go_simp; rfl)); clear HS; intro g3 w HS))
  go_upto_region 2 with (first | (go_at_call 20; refine (HAL.out _ _ (by repeat (first | exact HOLD.out | apply OldIn.cons)) HS).mono ?_; rintro e_ w_ ⟨v, rfl, hfew, HS_⟩; clear HS; have HS := HS_; clear HS_; obtain ⟨A0, c0, rfl⟩ := row_some HPS.out HS; replace hfew := Aside0.mk hfew) | ((with_reducible refine gate_dst (N := 5) rfl ?_); go_must (refine ev_box HS rfl (N := 5) rfl (cs := #[.int .i64 0, .int .i64 0, .int .i64 0]) (t := 34) ?hrun ?_); (case hrun => first | (go_simp; done) | (go_simp; rfl)); clear HS; intro g5 w HS) | ((with_reducible refine gate_store (t := 34) (p := 5) rfl ?_); go_must (refine ev_store HS 0 rfl rfl 34 (.tmp 5) (.tmp 12) rfl rfl rfl [.int .i64 0, .int .i64 0, .int .i64 0] ?hx (by kernel_rfl) (by rfl) ?h1 ?_); (case hx => first | rfl | (go_simp; done)); (case h1 => simp [Value.oneCell']); clear HS; intro w HS))
  have cb0 := HS.cell 0 rfl
  go_upto_region 4 with (fail)
  clear cb0
  replace HS := HS.erase 0
  go_upto_region 5 with (first | ((with_reducible refine gate_dst (N := 20) rfl ?_); go_must (refine ev_box HS rfl (N := 20) rfl (cs := #[.slice (some A0) ts.length c0, .int .i64 0, .int .i64 0, .int .i64 0, .int .i64 0]) (t := 68) ?hrun ?_); (case hrun => first | (go_simp; done) | (go_simp; rfl)); clear HS; intro g w HS))
  rw [← ps_first g A0 c0 ts] at HS
  have hok0 := Aside0.mk (show POk ts ⟨ts, 0, 0, 0, 0⟩ from ⟨⟨0, HPS.out, rfl⟩, HTS.out, hfew.out, Int.le_refl 0, by show (0 : Int) ≤ 200; decide⟩)
  obtain ⟨all, hall⟩ : ∃ x, x = ts := ⟨_, rfl⟩
  replace HS : Sat W0 w (psB g A0 c0 all.length ⟨ts, 0, 0, 0, 0⟩ :: tkR A0 c0 all :: blk g3 34 #[.int .i64 0, .int .i64 0, .int .i64 0] :: blk g2 30 #[.slice none 0 0, .slice none 0 0] :: L) := by rw [hall]; exact HS
  replace hok0 : Aside0 (POk all ⟨ts, 0, 0, 0, 0⟩) := by rw [hall]; exact hok0
  have hfewA : Aside0 (ts.length ≤ 65537) := hfew
  have hlenA := Aside0.mk (show all.length = ts.length from by rw [hall])
  clear hall hfew HTS HPS HAL
  go_wp2_with (first | ((with_reducible refine gate_dst (N := 7) rfl ?_); go_must (refine ev_box HS rfl (N := 7) rfl (cs := #[.slice none 0 0, .slice none 0 0]) (t := 30) ?hrun ?_); (case hrun => first | (go_simp; done) | (go_simp; rfl)); clear HS; intro g7 w HS; replace HS := rot3 HS))
  replace HS := rot3 ((rot3 (HS.nil k41 41)).nil k75 75)
  refine wp_norm_ (a' := ?_) ?_ ?_
  rotate_left
  · show Act.put _ _ _ = _
    (try simp only [Act.put, List.setIfInBounds_toArray, List.set_cons_zero, List.set_cons_succ, i64_w, i32_w])
    rfl
  go_loopg [] (ts.length + 3) (fun kq w' => ∃ (k : Nat) (A : Option Addr) (a : Nat) (gs : List GB) (B : Option Addr) (b : Nat) (fs : List FU) (sc : PS), Aside0 (POk all sc ∧ k + gs.length + fs.length ≤ ts.length + 2 ∧ k < kq ∧ progQ (fnsF fuel) k gs fs sc = some r) ∧ Aside0 (Sat W0 w' (psB g A0 c0 all.length sc :: tkR A0 c0 all :: row k75 75 (.slice A gs.length a) gs :: row k41 41 (.slice B fs.length b) fs :: blk g7 30 #[.slice A gs.length a, .slice B fs.length b] :: blk g3 34 #[.int .i64 0, .int .i64 0, .int .i64 0] :: blk g2 30 #[.slice none 0 0, .slice none 0 0] :: L)))
  case atStart => exact ⟨ts.length + 2, none, 0, [], none, 0, [], ⟨ts, 0, 0, 0, 0⟩, ⟨hok0.out, by simp, by omega, HPP.out⟩, ⟨HS⟩⟩
  case round =>
    clear HS HPP hok0
    obtain ⟨k, A, a, gs, B, b, fs, sc, HI, HS'⟩ := hrel
    have HS := HS'.out
    clear HS'
    cases gk with
    | zero => have := HI.out.2.2.1; omega
    | succ k1 =>
      cases k with
      | zero => exact absurd HI.out.2.2.2 (progQ_zero _ _ _ _ _)
      | succ k =>
        have hsc := HI.out.1
        have hc := HI.out.2.2.2
        rw [progQ] at hc
        cases hb : badP sc with
        | true =>
          rw [hb] at hc
          simp only [Bool.not_true, Bool.false_and, Bool.false_eq_true, if_false, Option.some.injEq] at hc
          have hRf := HRR.out
          rw [← hc] at hRf
          simp only [hb, if_true] at hRf
          have hse := Aside0.mk (show sc.e ≠ 0 from bne_iff_ne.1 hb)
          have HRF := Aside0.mk hRf
          have HBD := Aside0.mk (fun (w : World) (L : List Chunk) (HS : Sat W0 w (psB g A0 c0 all.length sc :: tkR A0 c0 all :: L)) => bad_at hb HS)
          clear hc hb hsc hRf
          go_upto_region 17 with (first | ((try (refine gate_guard (by rfl) ?_; dsimp only)); go_at_call 21; (first | (with_reducible refine (HBD.out _ _ HS).mono ?_)); rintro e_ w_ ⟨rfl, HS_⟩; clear HS; have HS := HS_; clear HS_))
          refine start_ (n := 7) (S := fun w' => HasB W0 w' (blk g 68 #[.slice (some (A0.add ((all.length - sc.ts.length) * 5))) sc.ts.length (c0 - (all.length - sc.ts.length)), .int .i64 sc.deep, .int .i64 sc.e, .int .i64 sc.l, .int .i64 sc.c])) (ds := []) #[false, false, false, false, false, false, false] (by kernel_rfl) rfl rfl ⟨_, 0, rfl, HS.drew⟩ (fun hHeld => ?_)
          replace HS := HS.drew
          generalize World.drew w_ = w at HS hHeld ⊢
          refine pure_ (i := 0) (N := some 74) (v := ?_) (a' := ?_) #[true, false, false, false, false, false, false] rfl rfl (by kernel_rfl) (fun _ _ _ h => h) (Or.inl ⟨by rfl, ?_⟩) ?_ ?_
          rotate_left
          · intro w'
            go_simp
            with_reducible rfl
          rotate_left
          · (try simp only [Act.put, List.setIfInBounds_toArray, List.set_cons_zero, List.set_cons_succ, i64_w, i32_w])
            rfl
          refine pure_ (i := 1) (N := some 75) (v := ?_) (a' := ?_) #[true, true, false, false, false, false, false] rfl rfl (by kernel_rfl) (fun _ _ _ h => h) (Or.inl ⟨by rfl, ?_⟩) ?_ ?_
          rotate_left
          · intro w'
            go_simp
            with_reducible rfl
          rotate_left
          · (try simp only [Act.put, List.setIfInBounds_toArray, List.set_cons_zero, List.set_cons_succ, i64_w, i32_w])
            rfl
          refine pure_ (i := 2) (N := some 76) (v := ?_) (a' := ?_) #[true, true, true, false, false, false, false] rfl rfl (by kernel_rfl) (fun _ _ _ h => h) (Or.inl ⟨by rfl, ?_⟩) ?_ ?_
          rotate_left
          · intro w'
            go_simp
            with_reducible rfl
          rotate_left
          · (try simp only [Act.put, List.setIfInBounds_toArray, List.set_cons_zero, List.set_cons_succ, i64_w, i32_w])
            rfl
          refine pure_ (i := 3) (N := some 77) (v := ?_) (a' := ?_) #[true, true, true, true, false, false, false] rfl rfl (by kernel_rfl) (fun _ _ _ h => h) (Or.inl ⟨by rfl, ?_⟩) ?_ ?_
          rotate_left
          · intro w'
            go_simp
            with_reducible rfl
          rotate_left
          · (try simp only [Act.put, List.setIfInBounds_toArray, List.set_cons_zero, List.set_cons_succ, i64_w, i32_w])
            rfl
          refine take_ (i := 4) (N := some 78) (v := ?_) (a' := ?_) #[true, true, true, true, true, false, false] rfl rfl (by kernel_rfl) (fun _ _ _ h => h) (Or.inl ⟨by rfl, ?_⟩) hHeld ?_ ?_
          rotate_left
          · rintro w' hS
            refine part_hbo hS 2 34 (.tmp 77) ?_ ?_ _ Tryd.underlying34 rfl [.int .i64 sc.e, .int .i64 sc.l, .int .i64 sc.c] (by kernel_rfl) (fun j v h => by match j, h with | 0, h => exact h | 1, h => exact h | 2, h => exact h) <;> rfl
          rotate_left
          · (try simp only [Act.put, List.setIfInBounds_toArray, List.set_cons_zero, List.set_cons_succ, i64_w, i32_w])
            rfl
          refine one_ (i := 5) (N := none) #[true, true, true, true, true, true, false] rfl rfl (by kernel_rfl) (by decide) (fun K hK => ?_)
          refine ev_store_step HS 6 rfl (by rfl) 30 (.tmp 2) (.tmp 74) rfl rfl rfl [.slice none 0 0, .slice none 0 0] rfl (by kernel_rfl) (by rfl) (by simp [Value.oneCell']) ?_
          clear HS
          intro w HS
          refine hK.out _ _ ⟨_, 0, rfl, HS⟩ (fun hHeld => ?_)
          clear hK K
          refine one_ (i := 6) (N := none) #[true, true, true, true, true, true, true] rfl rfl (by kernel_rfl) (by decide) (fun K hK => ?_)
          refine ev_store_step HS 5 rfl (by rfl) 34 (.tmp 3) (.tmp 78) rfl rfl rfl [.int .i64 sc.e, .int .i64 sc.l, .int .i64 sc.c] rfl (by kernel_rfl) (by rfl) (by simp [Value.oneCell']) ?_
          clear HS
          intro w HS
          refine hK.out _ _ ⟨_, 0, rfl, HS⟩ (fun hHeld => ?_)
          clear hK K
          refine done_ (by kernel_rfl) ?_
          try clear hHeld
          go_wp2
          refine ret_cc HS 6 5 rfl rfl rfl rfl rfl _ _ Tryd.underlying30 Tryd.underlying34 rfl rfl (by kernel_rfl) (by kernel_rfl) rfl ?_
          rw [HRF.out]
          exact ⟨hse.out, rfl, HS.tail.tail.tail.tail.tail.tail.tail⟩
        | false =>
        have HBD := Aside0.mk (fun (w : World) (L : List Chunk) (HS : Sat W0 w (psB g A0 c0 all.length sc :: tkR A0 c0 all :: L)) => bad_at hb HS)
        have HNW := Aside0.mk (fun (w : World) (L : List Chunk) (HS : Sat W0 w (psB g A0 c0 all.length sc :: tkR A0 c0 all :: L)) => show Calls Tryd.prog 22 #[.pointer (some ⟨g, 0, none⟩)] w _ from now_calls hsc HS)
        try unfold tkA at HNW
        obtain ⟨t, ht⟩ : ∃ t, t = nowP sc := ⟨_, rfl⟩
        rw [← ht] at HNW hc
        clear ht
        cases hk : (t.f0 != 0) with
        | false =>
          rw [hb, hk] at hc
          simp only [Bool.not_false, Bool.and_false, Bool.false_eq_true, if_false, Option.some.injEq] at hc
          have hRf := HRR.out
          rw [← hc] at hRf
          simp only [hb, Bool.false_eq_true, if_false] at hRf
          have HRF := Aside0.mk hRf
          clear hc hb hsc hRf
          go_wp2_with (first | ((try (refine gate_guard (by rfl) ?_; dsimp only)); go_at_call 21; (first | (with_reducible refine (HBD.out _ _ HS).mono ?_)); rintro e_ w_ ⟨rfl, HS_⟩; clear HS; have HS := HS_; clear HS_) | ((try (refine gate_guard (by rfl) ?_; dsimp only)); go_at_call 22; (first | (with_reducible refine (HNW.out _ _ HS).mono ?_)); rintro e_ w_ ⟨rfl, HS_⟩; clear HS; have HS := HS_; clear HS_) | ((with_reducible refine gate_dst (N := 79) rfl ?_); (with_reducible refine gate_load (ty := 30) (p := 7) rfl ?_); (try (refine gate_guard (by rfl) ?_; dsimp only)); go_must (refine ev_load HS 4 rfl rfl 30 (.tmp 7) rfl (N := 79) rfl rfl _ Tryd.underlying30 rfl (by kernel_rfl) ?_)) | ((with_reducible refine gate_store (t := 30) (p := 2) rfl ?_); go_must (refine ev_store HS 6 rfl rfl 30 (.tmp 2) (.tmp 79) rfl rfl rfl [.slice A gs.length a, .slice B fs.length b] ?hx (by kernel_rfl) (by rfl) ?h1 ?_); (case hx => first | rfl | (go_simp; done)); (case h1 => simp [Value.oneCell']); clear HS; intro w HS) | ((with_reducible refine gate_store (t := 34) (p := 3) rfl ?_); go_must (refine ev_store HS 5 rfl rfl 34 (.tmp 3) (.tmp 80) rfl rfl rfl [.int .i64 0, .int .i64 0, .int .i64 0] ?hx (by kernel_rfl) (by rfl) ?h1 ?_); (case hx => first | rfl | (go_simp; done)); (case h1 => simp [Value.oneCell']); clear HS; intro w HS))
          refine ret_cc HS 6 5 rfl rfl rfl rfl rfl _ _ Tryd.underlying30 Tryd.underlying34 rfl rfl (by kernel_rfl) (by kernel_rfl) rfl ?_
          replace HS := HS.erase 4
          replace HS := HS.erase 4
          replace HS := HS.erase 4
          rw [HRF.out]
          replace HS := HS.front 3 rfl
          replace HS := HS.front 3 rfl
          exact ⟨A, B, a, b, rfl, (HS.erase 2).erase 2⟩
        | true =>
        rw [hb, hk] at hc
        simp only [Bool.not_false, Bool.and_true, if_true] at hc
        unfold itemP at hc
        clear hb
        have hLB := Aside0.mk (show (gs.length + 1) * 48 ≤ 140737488355328 from by have := HI.out.2.1; have := hfewA.out; omega)
        have hLF := Aside0.mk (show (fs.length + 1) * 80 ≤ 140737488355328 from by have := HI.out.2.1; have := hfewA.out; omega)
        cases ht : (takeP sc (bs [118, 97, 114])).1 with
        | true =>
          rw [if_pos ht] at hc
          simp only at hc
          obtain ⟨s1, hs_⟩ : ∃ x, x = (takeP sc (bs [118, 97, 114])).2 := ⟨_, rfl⟩
          have HT := Aside0.mk (fun (w : World) (L : List Chunk) (HS : Sat W0 w (psB g A0 c0 all.length sc :: tkR A0 c0 all :: L)) => show Calls Tryd.prog 23 #[.pointer (some ⟨g, 0, none⟩), .string ⟨#[118, 97, 114]⟩] w fun r w' => r = .returned (.bool true) ∧ Sat W0 w' (psB g A0 c0 all.length (takeP sc (bs [118, 97, 114])).2 :: tkR A0 c0 all :: L) from take_at hsc ht HS)
          have h1 := hsc.take (bs [118, 97, 114])
          rw [← hs_] at HT h1 hc
          clear hs_ ht hsc
          have HGB := Aside0.mk (fun (w : World) (L : List Chunk) (HS : Sat W0 w (psB g A0 c0 all.length s1 :: tkR A0 c0 all :: L)) => global_calls h1 0 HS)
          have hse := (global_keeps 0 s1 h1).1
          obtain ⟨g1, hg1⟩ : ∃ x, x = (globalP 0 s1).1 := ⟨_, rfl⟩
          obtain ⟨s2, hs2⟩ : ∃ x, x = (globalP 0 s1).2 := ⟨_, rfl⟩
          rw [← hg1, ← hs2] at hc HGB
          rw [← hs2] at hse
          rw [List.append_nil] at hc
          have HC := Aside0.mk hc
          have HSE := Aside0.mk hse
          clear hc hse hg1 hs2 h1
          go_upto_region 9 with (first | ((try (refine gate_guard (by rfl) ?_; dsimp only)); go_at_call 21; (first | (with_reducible refine (HBD.out _ _ HS).mono ?_)); rintro e_ w_ ⟨rfl, HS_⟩; clear HS; have HS := HS_; clear HS_) | ((try (refine gate_guard (by rfl) ?_; dsimp only)); go_at_call 22; (first | (with_reducible refine (HNW.out _ _ HS).mono ?_)); rintro e_ w_ ⟨rfl, HS_⟩; clear HS; have HS := HS_; clear HS_) | ((try (refine gate_guard (by rfl) ?_; dsimp only)); go_at_call 23; (first | (with_reducible refine (HT.out _ _ HS).mono ?_)); rintro e_ w_ ⟨rfl, HS_⟩; clear HS; have HS := HS_; clear HS_))
          refine start_ (n := 8) (S := fun w' => HasG W0 w' g7 30 0 (.slice A gs.length a)) (ds := [7]) #[false, false, false, false, false, false, false, false] (by kernel_rfl) rfl rfl ⟨_, 4, _, rfl, HS.drew, rfl⟩ (fun hHeld => ?_)
          replace HS := HS.drew
          generalize World.drew w_ = w at HS hHeld ⊢
          refine pure_ (i := 0) (N := some 35) (v := ?_) (a' := ?_) #[true, false, false, false, false, false, false, false] rfl rfl (by kernel_rfl) (fun _ _ _ h => h) (Or.inl ⟨by rfl, ?_⟩) ?_ ?_
          rotate_left
          · intro w'
            go_simp
            with_reducible rfl
          rotate_left
          · (try simp only [Act.put, List.setIfInBounds_toArray, List.set_cons_zero, List.set_cons_succ, i64_w, i32_w])
            rfl
          refine take_ (i := 1) (N := some 36) (v := ?_) (a' := ?_) #[true, true, false, false, false, false, false, false] rfl rfl (by kernel_rfl) (fun _ _ _ h => h) (Or.inl ⟨by rfl, ?_⟩) hHeld ?_ ?_
          rotate_left
          · rintro w' hS
            have cb := hS.cell
            clear hS
            go_simp
            with_reducible rfl
          rotate_left
          · (try simp only [Act.put, List.setIfInBounds_toArray, List.set_cons_zero, List.set_cons_succ, i64_w, i32_w])
            rfl
          refine pure_ (i := 2) (N := some 37) (v := ?_) (a' := ?_) #[true, true, true, false, false, false, false, false] rfl rfl (by kernel_rfl) (fun _ _ _ h => h) (Or.inl ⟨by rfl, ?_⟩) ?_ ?_
          rotate_left
          · intro w'
            go_simp
            with_reducible rfl
          rotate_left
          · (try simp only [Act.put, List.setIfInBounds_toArray, List.set_cons_zero, List.set_cons_succ, i64_w, i32_w])
            rfl
          refine one_ (i := 3) (N := some 38) #[true, true, true, true, false, false, false, false] rfl rfl (by kernel_rfl) (by decide) (fun K hK => ?_)
          refine goes_ Tryd.func24 (by kernel_rfl) rfl #[.pointer (some ⟨g, 0, none⟩), .int .i64 0] (by rfl) rfl rfl (by (try simp only [List.map_toArray, List.map_cons, List.map_nil]); first | done | rfl) ?_
          refine (HGB.out _ _ HS).mono ?_
          rintro e_ w_ ⟨rfl, HS_⟩
          refine ⟨_, rfl, ?_⟩
          clear HS
          have HS := HS_
          clear HS_
          refine hK.out _ _ ⟨_, 4, _, rfl, HS, rfl⟩ (fun hHeld => ?_)
          clear hK K
          refine norm_ (a' := ?_) ?_ ?_
          rotate_left
          · show Act.put _ _ _ = _
            (try simp only [Act.put, List.setIfInBounds_toArray, List.set_cons_zero, List.set_cons_succ, i64_w, i32_w])
            rfl
          refine one_ (i := 4) (N := some 39) #[true, true, true, true, true, false, false, false] rfl rfl (by kernel_rfl) (by decide) (fun K hK => ?_)
          refine ev_lit_step k75 (e := 75) HS (by rfl) (N := 39) rfl (xs := [g1]) (inner := gbA g1) ?hrun (repsG _ g1) (by simp) ?_
          case hrun => first | (go_simp; done) | (go_simp; rfl)
          clear HS
          intro glt w HS
          refine hK.out _ _ ⟨_, 5, _, rfl, HS, rfl⟩ (fun hHeld => ?_)
          clear hK K
          refine norm_ (a' := ?_) ?_ ?_
          rotate_left
          · show Act.put _ _ _ = _
            (try simp only [Act.put, List.setIfInBounds_toArray, List.set_cons_zero, List.set_cons_succ, i64_w, i32_w])
            rfl
          refine one_ (i := 5) (N := some 40) #[true, true, true, true, true, true, false, false] rfl rfl (by kernel_rfl) (by decide) (fun K hK => ?_)
          replace HS := HS.front 3 rfl
          refine ev_append_own_step k75 (.tmp 36) (.tmp 39) 27 75 (.agg #[.string ⟨#[]⟩, .int .i64 0, .int .i64 0, .int .i64 0, .int .i64 0]) 48 HS (by rfl) (N := 40) rfl (by rfl) (by rfl) (by rfl) Tryd.underlying27 infoG rfl (by show 0 < 5; decide) (by omega) hLB.out ?_
          clear HS
          intro vv w HS
          obtain ⟨A1, a1, rfl⟩ := HS.slice 0 rfl
          replace HS := rot3 HS
          refine hK.out _ _ ⟨_, 4, _, rfl, HS, rfl⟩ (fun hHeld => ?_)
          clear hK K
          refine norm_ (a' := ?_) ?_ ?_
          rotate_left
          · show Act.put _ _ _ = _
            (try simp only [Act.put, List.setIfInBounds_toArray, List.set_cons_zero, List.set_cons_succ, i64_w, i32_w])
            rfl
          refine pure_ (i := 6) (N := some 41) (v := ?_) (a' := ?_) #[true, true, true, true, true, true, true, false] rfl rfl (by kernel_rfl) (fun _ _ _ h => h) (Or.inl ⟨by rfl, ?_⟩) ?_ ?_
          rotate_left
          · intro w'
            go_simp
            with_reducible rfl
          rotate_left
          · (try simp only [Act.put, List.setIfInBounds_toArray, List.set_cons_zero, List.set_cons_succ, i64_w, i32_w])
            rfl
          refine last_ (i := 7) (N := none) #[true, true, true, true, true, true, true, true] rfl rfl (by kernel_rfl) (by decide) (fun K hK => ?_)
          refine ev_storeN_step HS 4 rfl (by rfl) 0 27 (.tmp 41) (.tmp 40) rfl rfl rfl (.slice A1 (gs ++ [g1]).length a1) rfl [.slice A1 (gs ++ [g1]).length a1] rfl (by kernel_rfl) (by simp) (by simp [Value.oneCell']) #[.slice A1 (gs ++ [g1]).length a1, .slice B fs.length b] rfl ?_
          clear HS
          intro w HS
          refine hK.out _ _ ?_
          clear hK K hHeld
          refine done_ (by kernel_rfl) ?_
          try clear hHeld
          go_wp2
          go_roundg k1
          case measure => exact Nat.lt_succ_self _
          case rel => exact ⟨k, A1, a1, gs ++ [g1], B, b, fs, s2, ⟨HSE.out, by (try simp only [List.length_append, List.length_singleton]); have := HI.out.2.1; omega, by have := HI.out.2.2.1; omega, HC.out⟩, ⟨HS⟩⟩
        | false =>
        rw [if_neg (by rw [ht]; decide)] at hc
        have HF0 := Aside0.mk (fun (w : World) (L : List Chunk) (HS : Sat W0 w (psB g A0 c0 all.length sc :: tkR A0 c0 all :: L)) => show Calls Tryd.prog 23 #[.pointer (some ⟨g, 0, none⟩), .string ⟨#[118, 97, 114]⟩] w fun r w' => r = .returned (.bool false) ∧ Sat W0 w' (psB g A0 c0 all.length sc :: tkR A0 c0 all :: L) from take_no hsc ht HS)
        clear ht
        cases ht : (takeP sc (bs [112, 117, 98, 108, 105, 99])).1 with
        | true =>
          rw [if_pos ht] at hc
          simp only at hc
          obtain ⟨s1, hs_⟩ : ∃ x, x = (takeP sc (bs [112, 117, 98, 108, 105, 99])).2 := ⟨_, rfl⟩
          have HT := Aside0.mk (fun (w : World) (L : List Chunk) (HS : Sat W0 w (psB g A0 c0 all.length sc :: tkR A0 c0 all :: L)) => show Calls Tryd.prog 23 #[.pointer (some ⟨g, 0, none⟩), .string ⟨#[112, 117, 98, 108, 105, 99]⟩] w fun r w' => r = .returned (.bool true) ∧ Sat W0 w' (psB g A0 c0 all.length (takeP sc (bs [112, 117, 98, 108, 105, 99])).2 :: tkR A0 c0 all :: L) from take_at hsc ht HS)
          have h1 := hsc.take (bs [112, 117, 98, 108, 105, 99])
          rw [← hs_] at HT h1 hc
          clear hs_ ht hsc
          have HGB := Aside0.mk (fun (w : World) (L : List Chunk) (HS : Sat W0 w (psB g A0 c0 all.length s1 :: tkR A0 c0 all :: L)) => global_calls h1 1 HS)
          have hse := (global_keeps 1 s1 h1).1
          obtain ⟨g1, hg1⟩ : ∃ x, x = (globalP 1 s1).1 := ⟨_, rfl⟩
          obtain ⟨s2, hs2⟩ : ∃ x, x = (globalP 1 s1).2 := ⟨_, rfl⟩
          rw [← hg1, ← hs2] at hc HGB
          rw [← hs2] at hse
          rw [List.append_nil] at hc
          have HC := Aside0.mk hc
          have HSE := Aside0.mk hse
          clear hc hse hg1 hs2 h1
          go_upto_region 11 with (first | ((try (refine gate_guard (by rfl) ?_; dsimp only)); go_at_call 21; (first | (with_reducible refine (HBD.out _ _ HS).mono ?_)); rintro e_ w_ ⟨rfl, HS_⟩; clear HS; have HS := HS_; clear HS_) | ((try (refine gate_guard (by rfl) ?_; dsimp only)); go_at_call 22; (first | (with_reducible refine (HNW.out _ _ HS).mono ?_)); rintro e_ w_ ⟨rfl, HS_⟩; clear HS; have HS := HS_; clear HS_) | ((try (refine gate_guard (by rfl) ?_; dsimp only)); go_at_call 23; (first | (with_reducible refine (HF0.out _ _ HS).mono ?_) | (with_reducible refine (HT.out _ _ HS).mono ?_)); rintro e_ w_ ⟨rfl, HS_⟩; clear HS; have HS := HS_; clear HS_))
          refine start_ (n := 8) (S := fun w' => HasG W0 w' g7 30 0 (.slice A gs.length a)) (ds := [7]) #[false, false, false, false, false, false, false, false] (by kernel_rfl) rfl rfl ⟨_, 4, _, rfl, HS.drew, rfl⟩ (fun hHeld => ?_)
          replace HS := HS.drew
          generalize World.drew w_ = w at HS hHeld ⊢
          refine pure_ (i := 0) (N := some 45) (v := ?_) (a' := ?_) #[true, false, false, false, false, false, false, false] rfl rfl (by kernel_rfl) (fun _ _ _ h => h) (Or.inl ⟨by rfl, ?_⟩) ?_ ?_
          rotate_left
          · intro w'
            go_simp
            with_reducible rfl
          rotate_left
          · (try simp only [Act.put, List.setIfInBounds_toArray, List.set_cons_zero, List.set_cons_succ, i64_w, i32_w])
            rfl
          refine take_ (i := 1) (N := some 46) (v := ?_) (a' := ?_) #[true, true, false, false, false, false, false, false] rfl rfl (by kernel_rfl) (fun _ _ _ h => h) (Or.inl ⟨by rfl, ?_⟩) hHeld ?_ ?_
          rotate_left
          · rintro w' hS
            have cb := hS.cell
            clear hS
            go_simp
            with_reducible rfl
          rotate_left
          · (try simp only [Act.put, List.setIfInBounds_toArray, List.set_cons_zero, List.set_cons_succ, i64_w, i32_w])
            rfl
          refine pure_ (i := 2) (N := some 47) (v := ?_) (a' := ?_) #[true, true, true, false, false, false, false, false] rfl rfl (by kernel_rfl) (fun _ _ _ h => h) (Or.inl ⟨by rfl, ?_⟩) ?_ ?_
          rotate_left
          · intro w'
            go_simp
            with_reducible rfl
          rotate_left
          · (try simp only [Act.put, List.setIfInBounds_toArray, List.set_cons_zero, List.set_cons_succ, i64_w, i32_w])
            rfl
          refine one_ (i := 3) (N := some 48) #[true, true, true, true, false, false, false, false] rfl rfl (by kernel_rfl) (by decide) (fun K hK => ?_)
          refine goes_ Tryd.func24 (by kernel_rfl) rfl #[.pointer (some ⟨g, 0, none⟩), .int .i64 1] (by rfl) rfl rfl (by (try simp only [List.map_toArray, List.map_cons, List.map_nil]); first | done | rfl) ?_
          refine (HGB.out _ _ HS).mono ?_
          rintro e_ w_ ⟨rfl, HS_⟩
          refine ⟨_, rfl, ?_⟩
          clear HS
          have HS := HS_
          clear HS_
          refine hK.out _ _ ⟨_, 4, _, rfl, HS, rfl⟩ (fun hHeld => ?_)
          clear hK K
          refine norm_ (a' := ?_) ?_ ?_
          rotate_left
          · show Act.put _ _ _ = _
            (try simp only [Act.put, List.setIfInBounds_toArray, List.set_cons_zero, List.set_cons_succ, i64_w, i32_w])
            rfl
          refine one_ (i := 4) (N := some 49) #[true, true, true, true, true, false, false, false] rfl rfl (by kernel_rfl) (by decide) (fun K hK => ?_)
          refine ev_lit_step k75 (e := 75) HS (by rfl) (N := 49) rfl (xs := [g1]) (inner := gbA g1) ?hrun (repsG _ g1) (by simp) ?_
          case hrun => first | (go_simp; done) | (go_simp; rfl)
          clear HS
          intro glt w HS
          refine hK.out _ _ ⟨_, 5, _, rfl, HS, rfl⟩ (fun hHeld => ?_)
          clear hK K
          refine norm_ (a' := ?_) ?_ ?_
          rotate_left
          · show Act.put _ _ _ = _
            (try simp only [Act.put, List.setIfInBounds_toArray, List.set_cons_zero, List.set_cons_succ, i64_w, i32_w])
            rfl
          refine one_ (i := 5) (N := some 50) #[true, true, true, true, true, true, false, false] rfl rfl (by kernel_rfl) (by decide) (fun K hK => ?_)
          replace HS := HS.front 3 rfl
          refine ev_append_own_step k75 (.tmp 46) (.tmp 49) 27 75 (.agg #[.string ⟨#[]⟩, .int .i64 0, .int .i64 0, .int .i64 0, .int .i64 0]) 48 HS (by rfl) (N := 50) rfl (by rfl) (by rfl) (by rfl) Tryd.underlying27 infoG rfl (by show 0 < 5; decide) (by omega) hLB.out ?_
          clear HS
          intro vv w HS
          obtain ⟨A1, a1, rfl⟩ := HS.slice 0 rfl
          replace HS := rot3 HS
          refine hK.out _ _ ⟨_, 4, _, rfl, HS, rfl⟩ (fun hHeld => ?_)
          clear hK K
          refine norm_ (a' := ?_) ?_ ?_
          rotate_left
          · show Act.put _ _ _ = _
            (try simp only [Act.put, List.setIfInBounds_toArray, List.set_cons_zero, List.set_cons_succ, i64_w, i32_w])
            rfl
          refine pure_ (i := 6) (N := some 51) (v := ?_) (a' := ?_) #[true, true, true, true, true, true, true, false] rfl rfl (by kernel_rfl) (fun _ _ _ h => h) (Or.inl ⟨by rfl, ?_⟩) ?_ ?_
          rotate_left
          · intro w'
            go_simp
            with_reducible rfl
          rotate_left
          · (try simp only [Act.put, List.setIfInBounds_toArray, List.set_cons_zero, List.set_cons_succ, i64_w, i32_w])
            rfl
          refine last_ (i := 7) (N := none) #[true, true, true, true, true, true, true, true] rfl rfl (by kernel_rfl) (by decide) (fun K hK => ?_)
          refine ev_storeN_step HS 4 rfl (by rfl) 0 27 (.tmp 51) (.tmp 50) rfl rfl rfl (.slice A1 (gs ++ [g1]).length a1) rfl [.slice A1 (gs ++ [g1]).length a1] rfl (by kernel_rfl) (by simp) (by simp [Value.oneCell']) #[.slice A1 (gs ++ [g1]).length a1, .slice B fs.length b] rfl ?_
          clear HS
          intro w HS
          refine hK.out _ _ ?_
          clear hK K hHeld
          refine done_ (by kernel_rfl) ?_
          try clear hHeld
          go_wp2
          go_roundg k1
          case measure => exact Nat.lt_succ_self _
          case rel => exact ⟨k, A1, a1, gs ++ [g1], B, b, fs, s2, ⟨HSE.out, by (try simp only [List.length_append, List.length_singleton]); have := HI.out.2.1; omega, by have := HI.out.2.2.1; omega, HC.out⟩, ⟨HS⟩⟩
        | false =>
        rw [if_neg (by rw [ht]; decide)] at hc
        have HF1 := Aside0.mk (fun (w : World) (L : List Chunk) (HS : Sat W0 w (psB g A0 c0 all.length sc :: tkR A0 c0 all :: L)) => show Calls Tryd.prog 23 #[.pointer (some ⟨g, 0, none⟩), .string ⟨#[112, 117, 98, 108, 105, 99]⟩] w fun r w' => r = .returned (.bool false) ∧ Sat W0 w' (psB g A0 c0 all.length sc :: tkR A0 c0 all :: L) from take_no hsc ht HS)
        clear ht
        cases ht : (takeP sc (bs [115, 101, 99, 114, 101, 116])).1 with
        | true =>
          rw [if_pos ht] at hc
          simp only at hc
          obtain ⟨s1, hs_⟩ : ∃ x, x = (takeP sc (bs [115, 101, 99, 114, 101, 116])).2 := ⟨_, rfl⟩
          have HT := Aside0.mk (fun (w : World) (L : List Chunk) (HS : Sat W0 w (psB g A0 c0 all.length sc :: tkR A0 c0 all :: L)) => show Calls Tryd.prog 23 #[.pointer (some ⟨g, 0, none⟩), .string ⟨#[115, 101, 99, 114, 101, 116]⟩] w fun r w' => r = .returned (.bool true) ∧ Sat W0 w' (psB g A0 c0 all.length (takeP sc (bs [115, 101, 99, 114, 101, 116])).2 :: tkR A0 c0 all :: L) from take_at hsc ht HS)
          have h1 := hsc.take (bs [115, 101, 99, 114, 101, 116])
          rw [← hs_] at HT h1 hc
          clear hs_ ht hsc
          have HGB := Aside0.mk (fun (w : World) (L : List Chunk) (HS : Sat W0 w (psB g A0 c0 all.length s1 :: tkR A0 c0 all :: L)) => global_calls h1 2 HS)
          have hse := (global_keeps 2 s1 h1).1
          obtain ⟨g1, hg1⟩ : ∃ x, x = (globalP 2 s1).1 := ⟨_, rfl⟩
          obtain ⟨s2, hs2⟩ : ∃ x, x = (globalP 2 s1).2 := ⟨_, rfl⟩
          rw [← hg1, ← hs2] at hc HGB
          rw [← hs2] at hse
          rw [List.append_nil] at hc
          have HC := Aside0.mk hc
          have HSE := Aside0.mk hse
          clear hc hse hg1 hs2 h1
          go_upto_region 13 with (first | ((try (refine gate_guard (by rfl) ?_; dsimp only)); go_at_call 21; (first | (with_reducible refine (HBD.out _ _ HS).mono ?_)); rintro e_ w_ ⟨rfl, HS_⟩; clear HS; have HS := HS_; clear HS_) | ((try (refine gate_guard (by rfl) ?_; dsimp only)); go_at_call 22; (first | (with_reducible refine (HNW.out _ _ HS).mono ?_)); rintro e_ w_ ⟨rfl, HS_⟩; clear HS; have HS := HS_; clear HS_) | ((try (refine gate_guard (by rfl) ?_; dsimp only)); go_at_call 23; (first | (with_reducible refine (HF0.out _ _ HS).mono ?_) | (with_reducible refine (HF1.out _ _ HS).mono ?_) | (with_reducible refine (HT.out _ _ HS).mono ?_)); rintro e_ w_ ⟨rfl, HS_⟩; clear HS; have HS := HS_; clear HS_))
          refine start_ (n := 8) (S := fun w' => HasG W0 w' g7 30 0 (.slice A gs.length a)) (ds := [7]) #[false, false, false, false, false, false, false, false] (by kernel_rfl) rfl rfl ⟨_, 4, _, rfl, HS.drew, rfl⟩ (fun hHeld => ?_)
          replace HS := HS.drew
          generalize World.drew w_ = w at HS hHeld ⊢
          refine pure_ (i := 0) (N := some 55) (v := ?_) (a' := ?_) #[true, false, false, false, false, false, false, false] rfl rfl (by kernel_rfl) (fun _ _ _ h => h) (Or.inl ⟨by rfl, ?_⟩) ?_ ?_
          rotate_left
          · intro w'
            go_simp
            with_reducible rfl
          rotate_left
          · (try simp only [Act.put, List.setIfInBounds_toArray, List.set_cons_zero, List.set_cons_succ, i64_w, i32_w])
            rfl
          refine take_ (i := 1) (N := some 56) (v := ?_) (a' := ?_) #[true, true, false, false, false, false, false, false] rfl rfl (by kernel_rfl) (fun _ _ _ h => h) (Or.inl ⟨by rfl, ?_⟩) hHeld ?_ ?_
          rotate_left
          · rintro w' hS
            have cb := hS.cell
            clear hS
            go_simp
            with_reducible rfl
          rotate_left
          · (try simp only [Act.put, List.setIfInBounds_toArray, List.set_cons_zero, List.set_cons_succ, i64_w, i32_w])
            rfl
          refine pure_ (i := 2) (N := some 57) (v := ?_) (a' := ?_) #[true, true, true, false, false, false, false, false] rfl rfl (by kernel_rfl) (fun _ _ _ h => h) (Or.inl ⟨by rfl, ?_⟩) ?_ ?_
          rotate_left
          · intro w'
            go_simp
            with_reducible rfl
          rotate_left
          · (try simp only [Act.put, List.setIfInBounds_toArray, List.set_cons_zero, List.set_cons_succ, i64_w, i32_w])
            rfl
          refine one_ (i := 3) (N := some 58) #[true, true, true, true, false, false, false, false] rfl rfl (by kernel_rfl) (by decide) (fun K hK => ?_)
          refine goes_ Tryd.func24 (by kernel_rfl) rfl #[.pointer (some ⟨g, 0, none⟩), .int .i64 2] (by rfl) rfl rfl (by (try simp only [List.map_toArray, List.map_cons, List.map_nil]); first | done | rfl) ?_
          refine (HGB.out _ _ HS).mono ?_
          rintro e_ w_ ⟨rfl, HS_⟩
          refine ⟨_, rfl, ?_⟩
          clear HS
          have HS := HS_
          clear HS_
          refine hK.out _ _ ⟨_, 4, _, rfl, HS, rfl⟩ (fun hHeld => ?_)
          clear hK K
          refine norm_ (a' := ?_) ?_ ?_
          rotate_left
          · show Act.put _ _ _ = _
            (try simp only [Act.put, List.setIfInBounds_toArray, List.set_cons_zero, List.set_cons_succ, i64_w, i32_w])
            rfl
          refine one_ (i := 4) (N := some 59) #[true, true, true, true, true, false, false, false] rfl rfl (by kernel_rfl) (by decide) (fun K hK => ?_)
          refine ev_lit_step k75 (e := 75) HS (by rfl) (N := 59) rfl (xs := [g1]) (inner := gbA g1) ?hrun (repsG _ g1) (by simp) ?_
          case hrun => first | (go_simp; done) | (go_simp; rfl)
          clear HS
          intro glt w HS
          refine hK.out _ _ ⟨_, 5, _, rfl, HS, rfl⟩ (fun hHeld => ?_)
          clear hK K
          refine norm_ (a' := ?_) ?_ ?_
          rotate_left
          · show Act.put _ _ _ = _
            (try simp only [Act.put, List.setIfInBounds_toArray, List.set_cons_zero, List.set_cons_succ, i64_w, i32_w])
            rfl
          refine one_ (i := 5) (N := some 60) #[true, true, true, true, true, true, false, false] rfl rfl (by kernel_rfl) (by decide) (fun K hK => ?_)
          replace HS := HS.front 3 rfl
          refine ev_append_own_step k75 (.tmp 56) (.tmp 59) 27 75 (.agg #[.string ⟨#[]⟩, .int .i64 0, .int .i64 0, .int .i64 0, .int .i64 0]) 48 HS (by rfl) (N := 60) rfl (by rfl) (by rfl) (by rfl) Tryd.underlying27 infoG rfl (by show 0 < 5; decide) (by omega) hLB.out ?_
          clear HS
          intro vv w HS
          obtain ⟨A1, a1, rfl⟩ := HS.slice 0 rfl
          replace HS := rot3 HS
          refine hK.out _ _ ⟨_, 4, _, rfl, HS, rfl⟩ (fun hHeld => ?_)
          clear hK K
          refine norm_ (a' := ?_) ?_ ?_
          rotate_left
          · show Act.put _ _ _ = _
            (try simp only [Act.put, List.setIfInBounds_toArray, List.set_cons_zero, List.set_cons_succ, i64_w, i32_w])
            rfl
          refine pure_ (i := 6) (N := some 61) (v := ?_) (a' := ?_) #[true, true, true, true, true, true, true, false] rfl rfl (by kernel_rfl) (fun _ _ _ h => h) (Or.inl ⟨by rfl, ?_⟩) ?_ ?_
          rotate_left
          · intro w'
            go_simp
            with_reducible rfl
          rotate_left
          · (try simp only [Act.put, List.setIfInBounds_toArray, List.set_cons_zero, List.set_cons_succ, i64_w, i32_w])
            rfl
          refine last_ (i := 7) (N := none) #[true, true, true, true, true, true, true, true] rfl rfl (by kernel_rfl) (by decide) (fun K hK => ?_)
          refine ev_storeN_step HS 4 rfl (by rfl) 0 27 (.tmp 61) (.tmp 60) rfl rfl rfl (.slice A1 (gs ++ [g1]).length a1) rfl [.slice A1 (gs ++ [g1]).length a1] rfl (by kernel_rfl) (by simp) (by simp [Value.oneCell']) #[.slice A1 (gs ++ [g1]).length a1, .slice B fs.length b] rfl ?_
          clear HS
          intro w HS
          refine hK.out _ _ ?_
          clear hK K hHeld
          refine done_ (by kernel_rfl) ?_
          try clear hHeld
          go_wp2
          go_roundg k1
          case measure => exact Nat.lt_succ_self _
          case rel => exact ⟨k, A1, a1, gs ++ [g1], B, b, fs, s2, ⟨HSE.out, by (try simp only [List.length_append, List.length_singleton]); have := HI.out.2.1; omega, by have := HI.out.2.2.1; omega, HC.out⟩, ⟨HS⟩⟩
        | false =>
        rw [if_neg (by rw [ht]; decide)] at hc
        have HF2 := Aside0.mk (fun (w : World) (L : List Chunk) (HS : Sat W0 w (psB g A0 c0 all.length sc :: tkR A0 c0 all :: L)) => show Calls Tryd.prog 23 #[.pointer (some ⟨g, 0, none⟩), .string ⟨#[115, 101, 99, 114, 101, 116]⟩] w fun r w' => r = .returned (.bool false) ∧ Sat W0 w' (psB g A0 c0 all.length sc :: tkR A0 c0 all :: L) from take_no hsc ht HS)
        clear ht
        cases ht : (takeP sc (bs [102, 117, 110, 99])).1 with
        | true =>
          rw [if_pos ht] at hc
          obtain ⟨s1, hs_⟩ : ∃ x, x = (takeP sc (bs [102, 117, 110, 99])).2 := ⟨_, rfl⟩
          have HT := Aside0.mk (fun (w : World) (L : List Chunk) (HS : Sat W0 w (psB g A0 c0 all.length sc :: tkR A0 c0 all :: L)) => show Calls Tryd.prog 23 #[.pointer (some ⟨g, 0, none⟩), .string ⟨#[102, 117, 110, 99]⟩] w fun r w' => r = .returned (.bool true) ∧ Sat W0 w' (psB g A0 c0 all.length (takeP sc (bs [102, 117, 110, 99])).2 :: tkR A0 c0 all :: L) from take_at hsc ht HS)
          have h1 := hsc.take (bs [102, 117, 110, 99])
          rw [← hs_] at HT h1 hc
          clear hs_ ht hsc
          cases hf : functionP (fnsF fuel) s1 with
          | none => rw [hf] at hc; cases hc
          | some r_ =>
          obtain ⟨f1, s2⟩ := r_
          rw [hf] at hc
          simp only [List.append_nil] at hc
          have HFU := Aside0.mk (fun (w : World) (M : List Chunk) (hM : OldIn W0 M) (HS : Sat W0 w (psB g A0 c0 all.length s1 :: tkR A0 c0 all :: M)) => function_walk (fns_keep all fuel) (fc_all all fuel).block W0 w M g A0 c0 s1 f1 s2 HGL.out hM h1 hf HS)
          have HC := Aside0.mk hc
          have HSE := Aside0.mk (function_keeps (fns_keep all fuel) s1 f1 s2 h1 hf).1
          clear hc h1 hf
          go_upto_region 15 with (first | ((try (refine gate_guard (by rfl) ?_; dsimp only)); go_at_call 21; (first | (with_reducible refine (HBD.out _ _ HS).mono ?_)); rintro e_ w_ ⟨rfl, HS_⟩; clear HS; have HS := HS_; clear HS_) | ((try (refine gate_guard (by rfl) ?_; dsimp only)); go_at_call 22; (first | (with_reducible refine (HNW.out _ _ HS).mono ?_)); rintro e_ w_ ⟨rfl, HS_⟩; clear HS; have HS := HS_; clear HS_) | ((try (refine gate_guard (by rfl) ?_; dsimp only)); go_at_call 23; (first | (with_reducible refine (HF0.out _ _ HS).mono ?_) | (with_reducible refine (HF1.out _ _ HS).mono ?_) | (with_reducible refine (HF2.out _ _ HS).mono ?_) | (with_reducible refine (HT.out _ _ HS).mono ?_)); rintro e_ w_ ⟨rfl, HS_⟩; clear HS; have HS := HS_; clear HS_))
          refine start_ (n := 8) (S := fun w' => HasG W0 w' g7 30 1 (.slice B fs.length b)) (ds := [7]) #[false, false, false, false, false, false, false, false] (by kernel_rfl) rfl rfl ⟨_, 4, _, rfl, HS.drew, rfl⟩ (fun hHeld => ?_)
          replace HS := HS.drew
          generalize World.drew w_ = w at HS hHeld ⊢
          refine pure_ (i := 0) (N := some 65) (v := ?_) (a' := ?_) #[true, false, false, false, false, false, false, false] rfl rfl (by kernel_rfl) (fun _ _ _ h => h) (Or.inl ⟨by rfl, ?_⟩) ?_ ?_
          rotate_left
          · intro w'
            go_simp
            with_reducible rfl
          rotate_left
          · (try simp only [Act.put, List.setIfInBounds_toArray, List.set_cons_zero, List.set_cons_succ, i64_w, i32_w])
            rfl
          refine take_ (i := 1) (N := some 66) (v := ?_) (a' := ?_) #[true, true, false, false, false, false, false, false] rfl rfl (by kernel_rfl) (fun _ _ _ h => h) (Or.inl ⟨by rfl, ?_⟩) hHeld ?_ ?_
          rotate_left
          · rintro w' hS
            have cb := hS.cell
            clear hS
            go_simp
            with_reducible rfl
          rotate_left
          · (try simp only [Act.put, List.setIfInBounds_toArray, List.set_cons_zero, List.set_cons_succ, i64_w, i32_w])
            rfl
          refine pure_ (i := 2) (N := some 67) (v := ?_) (a' := ?_) #[true, true, true, false, false, false, false, false] rfl rfl (by kernel_rfl) (fun _ _ _ h => h) (Or.inl ⟨by rfl, ?_⟩) ?_ ?_
          rotate_left
          · intro w'
            go_simp
            with_reducible rfl
          rotate_left
          · (try simp only [Act.put, List.setIfInBounds_toArray, List.set_cons_zero, List.set_cons_succ, i64_w, i32_w])
            rfl
          refine one_ (i := 3) (N := some 68) #[true, true, true, true, false, false, false, false] rfl rfl (by kernel_rfl) (by decide) (fun K hK => ?_)
          refine goes_ Tryd.func25 (by kernel_rfl) rfl #[.pointer (some ⟨g, 0, none⟩)] (by rfl) rfl rfl (by (try simp only [List.map_toArray, List.map_cons, List.map_nil]); first | done | rfl) ?_
          refine (HFU.out _ _ (by repeat (first | exact HOLD.out | apply OldIn.cons)) HS).mono ?_
          rintro e_ w_ ⟨vA, vB, va, vb, va', vb', rfl, HS_⟩
          refine ⟨_, rfl, ?_⟩
          clear HS
          have HS := HS_
          clear HS_
          replace HS := rot3 HS
          refine hK.out _ _ ⟨_, 5, _, rfl, HS, rfl⟩ (fun hHeld => ?_)
          clear hK K
          refine norm_ (a' := ?_) ?_ ?_
          rotate_left
          · show Act.put _ _ _ = _
            (try simp only [Act.put, List.setIfInBounds_toArray, List.set_cons_zero, List.set_cons_succ, i64_w, i32_w])
            rfl
          refine one_ (i := 4) (N := some 69) #[true, true, true, true, true, false, false, false] rfl rfl (by kernel_rfl) (by decide) (fun K hK => ?_)
          refine ev_litb_step HS (by rfl) (N := 69) rfl (cs := (fuA f1 (.slice vA va va') (.slice vB vb vb')).toArray) (e := 41) (n := 1) ?hrun ?_
          case hrun => first | (go_simp; done) | (go_simp; rfl)
          clear HS
          intro g69 w HS
          replace HS := rot3 HS
          refine hK.out _ _ ⟨_, 6, _, rfl, HS, rfl⟩ (fun hHeld => ?_)
          clear hK K
          refine norm_ (a' := ?_) ?_ ?_
          rotate_left
          · show Act.put _ _ _ = _
            (try simp only [Act.put, List.setIfInBounds_toArray, List.set_cons_zero, List.set_cons_succ, i64_w, i32_w])
            rfl
          refine one_ (i := 5) (N := some 70) #[true, true, true, true, true, true, false, false] rfl rfl (by kernel_rfl) (by decide) (fun K hK => ?_)
          replace HS := row_fu f1 (rot4 HS)
          replace HS := HS.front 4 rfl
          refine ev_append_own_step k41 (.tmp 66) (.tmp 69) 28 41 (.agg #[.string ⟨#[]⟩, .slice none 0 0, .slice none 0 0, .int .i64 0, .int .i64 0]) 80 HS (by rfl) (N := 70) rfl (by rfl) (by rfl) (by rfl) Tryd.underlying28 infoF rfl (by show 0 < 5; decide) (by omega) hLF.out ?_
          clear HS
          intro vv w HS
          obtain ⟨B1, b1, rfl⟩ := HS.slice 0 rfl
          replace HS := rot3 HS
          refine hK.out _ _ ⟨_, 4, _, rfl, HS, rfl⟩ (fun hHeld => ?_)
          clear hK K
          refine norm_ (a' := ?_) ?_ ?_
          rotate_left
          · show Act.put _ _ _ = _
            (try simp only [Act.put, List.setIfInBounds_toArray, List.set_cons_zero, List.set_cons_succ, i64_w, i32_w])
            rfl
          refine pure_ (i := 6) (N := some 71) (v := ?_) (a' := ?_) #[true, true, true, true, true, true, true, false] rfl rfl (by kernel_rfl) (fun _ _ _ h => h) (Or.inl ⟨by rfl, ?_⟩) ?_ ?_
          rotate_left
          · intro w'
            go_simp
            with_reducible rfl
          rotate_left
          · (try simp only [Act.put, List.setIfInBounds_toArray, List.set_cons_zero, List.set_cons_succ, i64_w, i32_w])
            rfl
          refine last_ (i := 7) (N := none) #[true, true, true, true, true, true, true, true] rfl rfl (by kernel_rfl) (by decide) (fun K hK => ?_)
          refine ev_storeN_step HS 4 rfl (by rfl) 1 28 (.tmp 71) (.tmp 70) rfl rfl rfl (.slice B1 (fs ++ [f1]).length b1) rfl [.slice B1 (fs ++ [f1]).length b1] rfl (by kernel_rfl) (by simp) (by simp [Value.oneCell']) #[.slice A gs.length a, .slice B1 (fs ++ [f1]).length b1] rfl ?_
          clear HS
          intro w HS
          refine hK.out _ _ ?_
          clear hK K hHeld
          refine done_ (by kernel_rfl) ?_
          try clear hHeld
          go_wp2
          replace HS := rot3 (HS.front 3 rfl)
          go_roundg k1
          case measure => exact Nat.lt_succ_self _
          case rel => exact ⟨k, A, a, gs, B1, b1, fs ++ [f1], s2, ⟨HSE.out, by (try simp only [List.length_append, List.length_singleton]); have := HI.out.2.1; omega, by have := HI.out.2.2.1; omega, HC.out⟩, ⟨HS⟩⟩
        | false =>
          rw [if_neg (by rw [ht]; decide)] at hc
          have HF3 := Aside0.mk (fun (w : World) (L : List Chunk) (HS : Sat W0 w (psB g A0 c0 all.length sc :: tkR A0 c0 all :: L)) => show Calls Tryd.prog 23 #[.pointer (some ⟨g, 0, none⟩), .string ⟨#[102, 117, 110, 99]⟩] w fun r w' => r = .returned (.bool false) ∧ Sat W0 w' (psB g A0 c0 all.length sc :: tkR A0 c0 all :: L) from take_no hsc ht HS)
          clear ht
          have HFL := Aside0.mk (fun (w : World) (L : List Chunk) (HS : Sat W0 w (psB g A0 c0 all.length sc :: tkR A0 c0 all :: L)) => fail_callsP hsc HS 12)
          simp only [List.append_nil] at hc
          have HC := Aside0.mk hc
          have HSE := Aside0.mk (hsc.fail 12)
          clear hc hsc
          go_wp2_with (first | ((try (refine gate_guard (by rfl) ?_; dsimp only)); go_at_call 21; (first | (with_reducible refine (HBD.out _ _ HS).mono ?_)); rintro e_ w_ ⟨rfl, HS_⟩; clear HS; have HS := HS_; clear HS_) | ((try (refine gate_guard (by rfl) ?_; dsimp only)); go_at_call 22; (first | (with_reducible refine (HNW.out _ _ HS).mono ?_)); rintro e_ w_ ⟨rfl, HS_⟩; clear HS; have HS := HS_; clear HS_) | ((try (refine gate_guard (by rfl) ?_; dsimp only)); go_at_call 23; (first | (with_reducible refine (HF0.out _ _ HS).mono ?_) | (with_reducible refine (HF1.out _ _ HS).mono ?_) | (with_reducible refine (HF2.out _ _ HS).mono ?_) | (with_reducible refine (HF3.out _ _ HS).mono ?_)); rintro e_ w_ ⟨rfl, HS_⟩; clear HS; have HS := HS_; clear HS_) | ((try (refine gate_guard (by rfl) ?_; dsimp only)); go_at_call 26; (first | (with_reducible refine (HFL.out _ _ HS).mono ?_)); rintro e_ w_ ⟨rfl, HS_⟩; clear HS; have HS := HS_; clear HS_))
          go_roundg k1
          case measure => exact Nat.lt_succ_self _
          case rel => exact ⟨k, A, a, gs, B, b, fs, (failP sc 12), ⟨HSE.out, by (try simp only [List.length_append, List.length_singleton]); have := HI.out.2.1; omega, by have := HI.out.2.2.1; omega, HC.out⟩, ⟨HS⟩⟩
/-- Program does what parseQ tells. -/
theorem program_calls {W0 w : World} {L : List Chunk} (hG : GL W0) (ho : OldIn W0 L) (txt : List UInt8) (fuel : Nat) (r : Parsed) (hp : parseQ fuel txt = some r) (HS : Sat W0 w L) :
    Calls Tryd.prog 10 #[.string (bs txt)] w fun e w' => ProgR W0 L r e w' := by
  have HA : ∀ (w : World) (M : List Chunk), OldIn W0 M → Sat W0 w M → Calls Tryd.prog 20 #[.string (bs txt)] w fun r w' => AllR W0 M txt r w' := by
    intro w M hM HS
    obtain ⟨io, hio⟩ := hM
    exact all_calls hG io hio HS
  unfold parseQ at hp
  unfold AllR at HA
  by_cases hl : 65536 < txt.length
  · rw [if_pos hl] at hp
    obtain rfl := Option.some.inj hp
    refine program_fault txt 14 1 1 (by decide) (fun w M hM HS => ?_) ho HS
    have h := HA w M hM HS
    simp only [if_pos hl] at h
    exact h
  · rw [if_neg hl] at hp
    simp only [if_neg hl] at HA
    cases ha : allP (txt.length + 1) txt 1 1 with
    | none => rw [ha] at hp; cases hp
    | some y =>
      rw [ha] at hp
      simp only [ha] at HA
      cases y with
      | inr e =>
        obtain rfl := Option.some.inj hp
        exact program_fault txt e.1 e.2.1 e.2.2 (by rcases allP_err _ _ _ _ _ ha with h | h <;> rw [h] <;> decide) HA ho HS
      | inl ts =>
        simp only at hp HA
        cases hq : progQ (fnsF fuel) (ts.length + 2) [] [] ⟨ts, 0, 0, 0, 0⟩ with
        | none => rw [hq] at hp; cases hp
        | some q =>
          rw [hq] at hp
          obtain ⟨gs, fs, s1⟩ := q
          obtain rfl := Option.some.inj hp
          exact program_loop hG ho txt fuel ts (allP_ends _ _ _ _ ts ha) (gs, fs, s1) hq HA HS
end Go.Proofs.YtenkganofobioaaDoor.B
