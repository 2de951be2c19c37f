/- The machine's memory as the machine that runs ahead sees it: what waits counts ahead of what is there. -/
import Derived.Test.YtkgoljbimblkhaaQue
import Derived.Test.YtkgoljbimblkhaaMachRun
namespace Go.Proofs.Ytkgoljbimblkhaa.B
open Go.RowKit Go.Proofs.Ytkgoljbimblkhaa.Mine Go.Proofs.Ytkgoljbimblkhaa.Sep Go.Proofs.YtkgoljbimblkhaaW.PrintWords Go.Proofs.YtkgoljbimblkhaaW.PrintLast Go.Proofs.YtkgoljbimblkhaaW.PrintMore
set_option linter.unusedVariables false
set_option linter.unusedSimpArgs false

def wc (x : Int × Int) : List Value := [.int .i64 x.1, .int .i64 x.2]
structure VM where
  mem : List Int
  buf : List (Int × Int)
/-- The newest word that waits at a place, of those that are told newest first; skip passes one over. -/
def vFind : Bool → Int → List (Int × Int) → Option Int
  | _, _, [] => none
  | k, a, x :: r => if x.1 = a then (if k = true then vFind false a r else some x.2) else vFind k a r
def vRd (skip : Bool) (m : VM) (a : Int) : Int × Bool := match vFind skip a m.buf.reverse with
  | some v => (v, true)
  | none => wRd m.mem a
def vWr (m : VM) (a x : Int) : VM × Bool := if (wRd m.mem a).2 = true then ({ m with buf := m.buf ++ [(a, x)] }, true) else (m, false)
def vF (skip : Bool) : MF VM := ⟨vRd skip, vWr⟩

/-- The cells of a machine that runs ahead. -/
def mcL (s : St) (vc vm vb vs vt : Value) (win left : Int) : List Value := stL s ++ [vc, vm, vb, vs, vt, .int .i64 win, .int .i64 left]
section
variable {s s' : St} {vc vm vb vs vt vm' vb' vs' vt' : Value} {win left left' : Int}
theorem mcL_length (hs : s.regs.length = 64) : (mcL s vc vm vb vs vt win left).length = 76 := by simp [mcL, stL_length hs]
theorem mcL_get (hs : s.regs.length = 64) (j : Nat) (hj : j < 69) : (mcL s vc vm vb vs vt win left)[j]? = (stL s)[j]? := by
  unfold mcL; rw [List.getElem?_append_left (by rw [stL_length hs]; exact hj)]
theorem mcL_tail (hs : s.regs.length = 64) (j : Nat) : (mcL s vc vm vb vs vt win left)[69 + j]? = [vc, vm, vb, vs, vt, Value.int .i64 win, .int .i64 left][j]? := by
  unfold mcL; rw [List.getElem?_append_right (by rw [stL_length hs]; omega), stL_length hs, Nat.add_sub_cancel_left]
theorem mcL_set (hs : s.regs.length = 64) (j : Nat) (v : Value) (hj : j < 69) (he : stL s' = (stL s).set j v) : mcL s' vc vm vb vs vt win left = (mcL s vc vm vb vs vt win left).set j v := by
  unfold mcL; rw [he, List.set_append_left _ _ (by rw [stL_length hs]; exact hj)]
theorem mcL_setTail (hs : s.regs.length = 64) (j : Nat) (v : Value) (he : [vc, vm, vb', vs', vt, Value.int .i64 win, .int .i64 left'] = [vc, vm, vb, vs, vt, Value.int .i64 win, .int .i64 left].set j v) : mcL s vc vm vb' vs' vt win left' = (mcL s vc vm vb vs vt win left).set (69 + j) v := by
  unfold mcL; rw [he, List.set_append_right _ _ (by rw [stL_length hs]; omega), stL_length hs, Nat.add_sub_cancel_left]
theorem mcL_one (h : ∀ q ∈ [vc, vm, vb, vs, vt], q.oneCell' = true) : ∀ q ∈ mcL s vc vm vb vs vt win left, q.oneCell' = true := by
  intro q hq
  unfold mcL at hq
  rcases List.mem_append.1 hq with hq | hq
  · exact stL_one s q hq
  · simp only [List.mem_cons, List.not_mem_nil, or_false] at hq h
    rcases hq with rfl | rfl | rfl | rfl | rfl | rfl | rfl
    · exact h _ (.inl rfl)
    · exact h _ (.inr (.inl rfl))
    · exact h _ (.inr (.inr (.inl rfl)))
    · exact h _ (.inr (.inr (.inr (.inl rfl))))
    · exact h _ (.inr (.inr (.inr (.inr rfl))))
    · rfl
    · rfl
end
theorem info99 : (Try.prog.info? 99).map (fun i => (i.zero, i.size, i.bytes)) = some (some (.agg #[.int .i64 0, .int .i64 0]), 2, 16) := by kernel_rfl
def MB (g : Nat) (s : St) (vc vm vb vs vt : Value) (win left : Int) : Chunk := blk g 86 (mcL s vc vm vb vs vt win left).toArray
def BQ (vb : Value) (b : List (Int × Int)) : Chunk := que 99 2 vb (b.map wc)
theorem mcell {W0 w : World} {L : List Chunk} {g : Nat} {s : St} {vc vm vb vs vt : Value} {win left : Int} (hs : s.regs.length = 64) (HS : Sat W0 w L) (i : Nat) (hi : L[i]? = some (MB g s vc vm vb vs vt win left)) (j : Nat) (hj : j < 69) : w.cell? ⟨g, j, none⟩ = (stL s)[j]? := by
  rw [HS.cell i hi j, List.getElem?_toArray, mcL_get hs j hj]
theorem mcellT {W0 w : World} {L : List Chunk} {g : Nat} {s : St} {vc vm vb vs vt : Value} {win left : Int} (hs : s.regs.length = 64) (HS : Sat W0 w L) (i : Nat) (hi : L[i]? = some (MB g s vc vm vb vs vt win left)) (j : Nat) : w.cell? ⟨g, 69 + j, none⟩ = [vc, vm, vb, vs, vt, Value.int .i64 win, .int .i64 left][j]? := by
  rw [HS.cell i hi (69 + j), List.getElem?_toArray, mcL_tail hs j]
section
variable {g : Nat} {A : Option Addr} {n c : Nat} {vc vs vt : Value} {win left : Int}
def vch (g : Nat) (A : Option Addr) (n c : Nat) (vc vs vt : Value) (win left : Int) (s : St) (m : VM) : Chunk :=
  ex fun (p : {vb : Value // s.regs.length = 64}) => two (MB g s vc (.slice A n c) p.1 vs vt win left) (two (BQ p.1 m.buf) (row IW 2 (.slice A n c) m.mem))
theorem vOpen {W0 w : World} {L : List Chunk} {s : St} {m : VM} (HS : Sat W0 w (vch g A n c vc vs vt win left s m :: L)) :
    ∃ vb, s.regs.length = 64 ∧ Sat W0 w (MB g s vc (.slice A n c) vb vs vt win left :: BQ vb m.buf :: row IW 2 (.slice A n c) m.mem :: L) := by
  obtain ⟨⟨vb, hs⟩, h⟩ := HS.openEx
  exact ⟨vb, hs, (Sat.split (Sat.swap (Sat.split h))).front 2 rfl⟩
theorem vClose {W0 w : World} {L : List Chunk} {s : St} {m : VM} {vb : Value} (hs : s.regs.length = 64) (HS : Sat W0 w (MB g s vc (.slice A n c) vb vs vt win left :: BQ vb m.buf :: row IW 2 (.slice A n c) m.mem :: L)) :
    Sat W0 w (vch g A n c vc vs vt win left s m :: L) := by
  have h : Sat W0 w (BQ vb m.buf :: row IW 2 (.slice A n c) m.mem :: MB g s vc (.slice A n c) vb vs vt win left :: L) := HS.insert 2 (by simp)
  exact Sat.closeEx ⟨vb, hs⟩ (Sat.join (Sat.swap (Sat.join h)))
theorem ev_put_step {P : Program} {ops : Array Oper} {o : Oper} {a : Act} {Q : Exit → Act → World → Prop} {Kc : Act → World → Prop} {W0 w : World} {L : List Chunk} {g : Nat} {t : TypeId} {cs : Array Value} {v : Value} (HS : Sat W0 w L) (i : Nat) (hi : L[i]? = some (blk g t cs)) (j : Nat)
    (hw : Region.wanted o (yielded ops a.tmps) = true) (hd : o.dst = none) (hrun : (execOp a.eval o).run P w = .ok .skip (w.setCell ⟨g, j, none⟩ v)) (h : ∀ w1, Sat W0 w1 (L.set i (blk g t (cs.setIfInBounds j v))) → Kc a w1) : if Region.wanted o (yielded ops a.tmps) = true then Oper.wp P o a w Kc Q else Kc (a.put none undef) w := by
  rw [if_pos hw]
  unfold Oper.wp
  rw [hrun]
  show Kc (a.put o.dst _) _
  rw [hd]
  exact h _ (HS.store i hi j v)
set_option maxRecDepth 100000 in
set_option maxHeartbeats 1000000 in
theorem vread_calls {W0 w : World} {L : List Chunk} {s : St} {m : VM} (skip : Bool) (a : Int) (hok : m.buf.length ≤ 1000000) (HS : Sat W0 w (vch g A n c vc vs vt win left s m :: L)) :
    Calls Try.prog 61 #[.agg #[.pointer (some ⟨g, 0, none⟩), .bool skip], .int .i64 a] w fun e w' => e = .returned (.tuple #[.int .i64 (vRd skip m a).1, .bool (vRd skip m a).2]) ∧ Sat W0 w' (vch g A n c vc vs vt win left s m :: L) := by
  obtain ⟨vb, hs, HS⟩ := vOpen HS
  obtain ⟨Ab, cq, rfl, hcq⟩ := HS.queSlice 1 rfl
  rw [List.length_map] at HS hcq
  obtain ⟨nb, hnb⟩ : ∃ nb, nb = m.buf.length := ⟨_, rfl⟩
  rw [← hnb] at HS hcq hok
  go_enter Try.func61, Try.ntmps61
  go_upto_region 1 with ((with_reducible refine gate_dst (N := 2) rfl ?_); go_must (refine ev_box HS rfl (N := 2) rfl (cs := #[.pointer (some ⟨g, 0, none⟩), .bool skip]) (t := 96) ?hrun ?_); (case hrun => first | (go_simp; done) | (go_simp; rfl)); clear HS; intro gb w HS)
  have cb := HS.cell 0 rfl
  have c71 : w.cell? ⟨g, 71, none⟩ = some (.slice Ab nb cq) := mcellT hs HS 1 rfl 2
  have c70 : w.cell? ⟨g, 70, none⟩ = some (.slice A n c) := mcellT hs HS 1 rfl 1
  have hw1 : wrap64 ((nb : Int) - 1) = (nb : Int) - 1 := w64 _ (by omega) (by omega)
  have HNB := Aside0.mk hnb
  clear hnb
  go_wp2
  go_loop [6, 7] (fun v6 v7 => ∃ (k : Nat) (sk : Bool), k ≤ nb ∧ v6 = .bool sk ∧ v7 = .int .i64 ((k : Int) - 1) ∧ Aside0 (vFind sk a (m.buf.take k).reverse = vFind skip a m.buf.reverse)) (fun v6 v7 => (intOf v7 + 1).toNat)
  case atStart => exact ⟨nb, skip, Nat.le_refl _, rfl, rfl, ⟨by rw [HNB.out, List.take_length]⟩⟩
  case round =>
    obtain ⟨k, sk, hk, rfl, rfl, HF⟩ := hrel
    obtain ⟨K, hK⟩ : ∃ K : Int, (k : Int) - 1 = K := ⟨_, rfl⟩
    rw [hK]
    have HK := Aside0.mk hK
    by_cases h0 : 0 ≤ K
    · have h0b : decide (0 ≤ K) = true := decide_eq_true h0
      obtain ⟨ad, x, rfl, hx, hxl, hxc⟩ := HS.queGet 2 rfl K h0 (by omega)
      obtain ⟨j, rfl⟩ : ∃ j, k = j + 1 := ⟨k - 1, by omega⟩
      have hj : K.toNat = j := by omega
      have hjl : j < m.buf.length := by have := HNB.out; omega
      rw [List.getElem?_map, hj, List.getElem?_eq_getElem hjl] at hx
      obtain ⟨y, hy⟩ : ∃ y, y = m.buf[j] := ⟨_, rfl⟩
      have HT : Aside0 ((m.buf.take (j + 1)).reverse = y :: (m.buf.take j).reverse) := ⟨by rw [List.take_succ_eq_append_getElem hjl, List.reverse_append, hy]; rfl⟩
      rw [← hy] at hx
      obtain rfl := Option.some.inj hx
      obtain ⟨y1, y2⟩ := y
      have x0 : w.cell? (ad.add (K.toNat * 2)) = some (.int .i64 y1) := hxc 0 _ rfl
      have x1 : w.cell? ⟨(ad.add (K.toNat * 2)).block, (ad.add (K.toNat * 2)).off + 1, none⟩ = some (.int .i64 y2) := by rw [← add_field _ _ 1 (by omega)]; exact hxc 1 _ rfl
      have r1 := eq_true h0
      have r2 := eq_true (show K < (nb : Int) by omega)
      have hwk : wrap64 (K - 1) = K - 1 := w64 _ (by omega) (by omega)
      have HKL := Aside0.mk hk
      clear hx hxc hK hy hxl hk hj hjl
      by_cases h1 : y1 = a
      · subst h1
        have h1b : (y1 != y1) = false := bne_self_eq_false y1
        cases sk with
        | true =>
          go_wp2
          go_round
          case rel => exact ⟨j, false, by have := HKL.out; omega, rfl, by have := HK.out; congr 1; push_cast at this; omega, ⟨by rw [← HF.out, HT.out]; simp [vFind]⟩⟩
          case measure => simp only [intOf]; omega
        | false =>
          go_wp2
          go_ret2
          refine ⟨?_, vClose hs HS.tail⟩
          rw [HT.out] at HF
          have e := HF.out
          simp [vFind] at e
          unfold vRd
          rw [← e]
          rfl
      · have h1b : (y1 != a) = true := bne_iff_ne.mpr h1
        go_wp2
        go_round
        case rel => exact ⟨j, sk, by have := HKL.out; omega, rfl, by have := HK.out; congr 1; push_cast at this; omega, ⟨by rw [← HF.out, HT.out]; simp [vFind, h1]⟩⟩
        case measure => simp only [intOf]; omega
    · have h0b : decide (0 ≤ K) = false := decide_eq_false h0
      have hk0 : k = 0 := by omega
      subst hk0
      have hF : vRd skip m a = wRd m.mem a := by
        have e := HF.out
        rw [List.take_zero] at e
        unfold vRd
        rw [← e]
        rfl
      have HFF := Aside0.mk hF
      clear hF hK
      go_wp2_with (go_at_call 59; refine (read_calls (m := m.mem) a 3 rfl HS).mono ?_; rintro e w_ ⟨rfl, HS_⟩; clear HS; have HS := HS_; clear HS_)
      go_ret2
      rw [HFF.out]
      exact ⟨rfl, vClose hs HS.tail⟩

set_option maxRecDepth 100000 in
set_option maxHeartbeats 1000000 in
theorem vwrite_calls {W0 w : World} {L : List Chunk} {s : St} {m : VM} (skip : Bool) (a x : Int) (hok : m.buf.length ≤ 1000000) (HS : Sat W0 w (vch g A n c vc vs vt win left s m :: L)) :
    Calls Try.prog 62 #[.agg #[.pointer (some ⟨g, 0, none⟩), .bool skip], .int .i64 a, .int .i64 x] w fun e w' => e = .returned (.bool (vWr m a x).2) ∧ Sat W0 w' (vch g A n c vc vs vt win left s (vWr m a x).1 :: L) := by
  obtain ⟨vb, hs, HS⟩ := vOpen HS
  obtain ⟨Ab, cq, rfl, hcq⟩ := HS.queSlice 1 rfl
  rw [List.length_map] at HS hcq
  obtain ⟨nb, hnb⟩ : ∃ nb, nb = m.buf.length := ⟨_, rfl⟩
  rw [← hnb] at HS hcq hok
  have HNB := Aside0.mk hnb
  clear hnb
  unfold vWr
  by_cases h : (wRd m.mem a).2 = true
  · rw [if_pos h]
    go_enter Try.func62, Try.ntmps62
    go_upto_region 1 with ((with_reducible refine gate_dst (N := 3) rfl ?_); go_must (refine ev_box HS rfl (N := 3) rfl (cs := #[.pointer (some ⟨g, 0, none⟩), .bool skip]) (t := 96) ?hrun ?_); (case hrun => first | (go_simp; done) | (go_simp; rfl)); clear HS; intro gb w HS)
    have cb := HS.cell 0 rfl
    have c70 : w.cell? ⟨g, 70, none⟩ = some (.slice A n c) := mcellT hs HS 1 rfl 1
    have HH := Aside0.mk h
    obtain ⟨r, hr⟩ : ∃ r, r = wRd m.mem a := ⟨_, rfl⟩
    have HRD := Aside0.mk (show Calls Try.prog 59 #[.slice A n c, .int .i64 a] w (fun e w' => e = .returned (.tuple #[.int .i64 r.1, .bool true]) ∧ Sat W0 w' (blk gb 96 #[.pointer (some ⟨g, 0, none⟩), .bool skip] :: MB g s vc (.slice A n c) (.slice Ab nb cq) vs vt win left :: BQ (.slice Ab nb cq) m.buf :: row IW 2 (.slice A n c) m.mem :: L)) from by
      refine (read_calls (m := m.mem) a 3 rfl HS).mono ?_
      rintro e w' ⟨rfl, h2⟩
      exact ⟨by rw [h, hr], h2⟩)
    clear h hr
    go_upto_region 4 with (go_at_call 59; refine HRD.out.mono ?_; rintro e w_ ⟨rfl, HS_⟩; clear HS HRD; have HS := HS_; clear HS_)
    refine start_ (n := 15) (S := fun w' => ∃ L', Sat W0 w' (blk gb 96 #[.pointer (some ⟨g, 0, none⟩), .bool skip] :: MB g s vc (.slice A n c) (.slice Ab nb cq) vs vt win left :: L')) (ds := [14]) #[false, false, false, false, false, false, false, false, false, false, false, false, false, false, false] (by kernel_rfl) rfl rfl ⟨_, HS.drew⟩ (fun hHeld => ?_)
    replace HS := HS.drew
    generalize World.drew w = w at HS hHeld ⊢
    refine pure_ (i := 0) (N := some 21) (v := ?_) (a' := ?_) #[true, false, false, false, false, false, false, false, false, false, false, false, false, false, false] rfl rfl (by kernel_rfl) (fun _ _ _ h => h) (Or.inl ⟨by rfl, ?_⟩) ?_ ?_
    rotate_left
    · intro w'
      go_simp
      with_reducible rfl
    rotate_left
    · (try simp only [Act.put, List.setIfInBounds_toArray, List.set_cons_zero, List.set_cons_succ, i64_w, i32_w])
      rfl
    refine take_ (i := 1) (N := some 22) (v := ?_) (a' := ?_) #[true, true, false, false, false, false, false, false, false, false, false, false, false, false, false] rfl rfl (by kernel_rfl) (fun _ _ _ h => h) (Or.inl ⟨by rfl, ?_⟩) hHeld ?_ ?_
    rotate_left
    · rintro w' hS
      obtain ⟨L', hS⟩ := hS
      have cb := hS.cell 0 rfl
      have c71 : w'.cell? ⟨g, 71, none⟩ = some (.slice Ab nb cq) := mcellT hs hS 1 rfl 2
      go_simp
      with_reducible rfl
    rotate_left
    · (try simp only [Act.put, List.setIfInBounds_toArray, List.set_cons_zero, List.set_cons_succ, i64_w, i32_w])
      rfl
    refine pure_ (i := 2) (N := some 23) (v := ?_) (a' := ?_) #[true, true, true, false, false, false, false, false, false, false, false, false, false, false, false] rfl rfl (by kernel_rfl) (fun _ _ _ h => h) (Or.inl ⟨by rfl, ?_⟩) ?_ ?_
    rotate_left
    · intro w'
      go_simp
      with_reducible rfl
    rotate_left
    · (try simp only [Act.put, List.setIfInBounds_toArray, List.set_cons_zero, List.set_cons_succ, i64_w, i32_w])
      rfl
    refine take_ (i := 3) (N := some 24) (v := ?_) (a' := ?_) #[true, true, true, true, false, false, false, false, false, false, false, false, false, false, false] rfl rfl (by kernel_rfl) (fun _ _ _ h => h) (Or.inl ⟨by rfl, ?_⟩) hHeld ?_ ?_
    rotate_left
    · rintro w' hS
      obtain ⟨L', hS⟩ := hS
      have cb := hS.cell 0 rfl
      have c71 : w'.cell? ⟨g, 71, none⟩ = some (.slice Ab nb cq) := mcellT hs hS 1 rfl 2
      go_simp
      with_reducible rfl
    rotate_left
    · (try simp only [Act.put, List.setIfInBounds_toArray, List.set_cons_zero, List.set_cons_succ, i64_w, i32_w])
      rfl
    refine pure_ (i := 4) (N := some 25) (v := ?_) (a' := ?_) #[true, true, true, true, true, false, false, false, false, false, false, false, false, false, false] rfl rfl (by kernel_rfl) (fun _ _ _ h => h) (Or.inl ⟨by rfl, ?_⟩) ?_ ?_
    rotate_left
    · intro w'
      go_simp
      with_reducible rfl
    rotate_left
    · (try simp only [Act.put, List.setIfInBounds_toArray, List.set_cons_zero, List.set_cons_succ, i64_w, i32_w])
      rfl
    refine pure_ (i := 5) (N := some 26) (v := ?_) (a' := ?_) #[true, true, true, true, true, true, false, false, false, false, false, false, false, false, false] rfl rfl (by kernel_rfl) (fun _ _ _ h => h) (Or.inl ⟨by rfl, ?_⟩) ?_ ?_
    rotate_left
    · intro w'
      go_simp
      with_reducible rfl
    rotate_left
    · (try simp only [Act.put, List.setIfInBounds_toArray, List.set_cons_zero, List.set_cons_succ, i64_w, i32_w])
      rfl
    refine take_ (i := 6) (N := some 27) (v := ?_) (a' := ?_) #[true, true, true, true, true, true, true, false, false, false, false, false, false, false, false] rfl rfl (by kernel_rfl) (fun _ _ _ h => h) (Or.inl ⟨by rfl, ?_⟩) hHeld ?_ ?_
    rotate_left
    · rintro w' hS
      obtain ⟨L', hS⟩ := hS
      have cb := hS.cell 0 rfl
      have c71 : w'.cell? ⟨g, 71, none⟩ = some (.slice Ab nb cq) := mcellT hs hS 1 rfl 2
      go_simp
      with_reducible rfl
    rotate_left
    · (try simp only [Act.put, List.setIfInBounds_toArray, List.set_cons_zero, List.set_cons_succ, i64_w, i32_w])
      rfl
    refine pure_ (i := 7) (N := some 28) (v := ?_) (a' := ?_) #[true, true, true, true, true, true, true, true, false, false, false, false, false, false, false] rfl rfl (by kernel_rfl) (fun _ _ _ h => h) (Or.inl ⟨by rfl, ?_⟩) ?_ ?_
    rotate_left
    · intro w'
      go_simp
      with_reducible rfl
    rotate_left
    · (try simp only [Act.put, List.setIfInBounds_toArray, List.set_cons_zero, List.set_cons_succ, i64_w, i32_w])
      rfl
    refine pure_ (i := 8) (N := some 29) (v := ?_) (a' := ?_) #[true, true, true, true, true, true, true, true, true, false, false, false, false, false, false] rfl rfl (by kernel_rfl) (fun _ _ _ h => h) (Or.inl ⟨by rfl, ?_⟩) ?_ ?_
    rotate_left
    · intro w'
      go_simp
      with_reducible rfl
    rotate_left
    · (try simp only [Act.put, List.setIfInBounds_toArray, List.set_cons_zero, List.set_cons_succ, i64_w, i32_w])
      rfl
    refine pure_ (i := 9) (N := some 30) (v := ?_) (a' := ?_) #[true, true, true, true, true, true, true, true, true, true, false, false, false, false, false] rfl rfl (by kernel_rfl) (fun _ _ _ h => h) (Or.inl ⟨by rfl, ?_⟩) ?_ ?_
    rotate_left
    · intro w'
      go_simp
      with_reducible rfl
    rotate_left
    · (try simp only [Act.put, List.setIfInBounds_toArray, List.set_cons_zero, List.set_cons_succ, i64_w, i32_w])
      rfl
    refine one_ (i := 10) (N := some 31) #[true, true, true, true, true, true, true, true, true, true, true, false, false, false, false] rfl rfl (by kernel_rfl) (by decide) (fun K hK => ?_)
    refine ev_slit_step HS (by rfl) (N := 31) rfl (cs := #[.int .i64 a, .int .i64 x]) (t := 99) ?hrun ?_
    (case hrun => first | (go_simp; done) | (go_simp; rfl))
    clear HS
    intro gl w HS
    refine hK.out _ _ ⟨_, HS.tail⟩ (fun hHeld => ?_)
    clear hK K
    refine norm_ (a' := ?_) ?_ ?_
    rotate_left
    · show Act.put _ _ _ = _
      (try simp only [Act.put, List.setIfInBounds_toArray, List.set_cons_zero, List.set_cons_succ, i64_w, i32_w])
      rfl
    refine one_ (i := 11) (N := some 32) #[true, true, true, true, true, true, true, true, true, true, true, true, false, false, false] rfl rfl (by kernel_rfl) (by decide) (fun K hK => ?_)
    refine ev_qapp_step HS 2 rfl (.tmp 27) (.tmp 31) 82 (.agg #[.int .i64 0, .int .i64 0]) 16 1 (by rfl) (N := 32) rfl rfl (by rfl) (by rfl) Try.underlying82 info99 rfl (by decide) rfl (by simp [Value.oneCell']) (by rw [List.length_map]; have := HNB.out; omega) (by decide) ?_
    clear HS
    intro vo w HS
    obtain ⟨Av, cv, rfl, hcv⟩ := HS.queSlice 2 rfl
    obtain ⟨lv, hlv⟩ : ∃ lv, lv = (m.buf.map wc ++ [(#[Value.int .i64 a, .int .i64 x]).toList]).length := ⟨_, rfl⟩
    rw [← hlv] at HS ⊢
    refine hK.out _ _ ⟨_, HS⟩ (fun hHeld => ?_)
    clear hK K
    refine norm_ (a' := ?_) ?_ ?_
    rotate_left
    · show Act.put _ _ _ = _
      (try simp only [Act.put, List.setIfInBounds_toArray, List.set_cons_zero, List.set_cons_succ, i64_w, i32_w])
      rfl
    refine pure_ (i := 12) (N := some 33) (v := ?_) (a' := ?_) #[true, true, true, true, true, true, true, true, true, true, true, true, true, false, false] rfl rfl (by kernel_rfl) (fun _ _ _ h => h) (Or.inl ⟨by rfl, ?_⟩) ?_ ?_
    rotate_left
    · intro w'
      go_simp
      with_reducible rfl
    rotate_left
    · (try simp only [Act.put, List.setIfInBounds_toArray, List.set_cons_zero, List.set_cons_succ, i64_w, i32_w])
      rfl
    refine pure_ (i := 13) (N := some 34) (v := ?_) (a' := ?_) #[true, true, true, true, true, true, true, true, true, true, true, true, true, true, false] rfl rfl (by kernel_rfl) (fun _ _ _ h => h) (Or.inl ⟨by rfl, ?_⟩) ?_ ?_
    rotate_left
    · intro w'
      go_simp
      with_reducible rfl
    rotate_left
    · (try simp only [Act.put, List.setIfInBounds_toArray, List.set_cons_zero, List.set_cons_succ, i64_w, i32_w])
      rfl
    refine last_ (i := 14) (N := none) #[true, true, true, true, true, true, true, true, true, true, true, true, true, true, true] rfl rfl (by kernel_rfl) (by decide) (fun K hK => ?_)
    have c71 : w.cell? ⟨g, 71, none⟩ = some (.slice Ab nb cq) := mcellT hs HS 1 rfl 2
    have f71 : w.frozen? ⟨g, 71, none⟩ = false := HS.frozen 1 rfl 71
    refine ev_put_step HS 1 rfl 71 (by rfl) rfl (v := .slice Av lv cv) ?hrun ?_
    (case hrun => go_simp; first | done | rfl)
    clear HS c71 f71
    intro w HS
    refine hK.out _ _ ?_
    clear hK K
    refine done_ (by kernel_rfl) ?_
    clear hHeld
    replace HS : Sat W0 w (MB g s vc (.slice A n c) (.slice Av lv cv) vs vt win left :: BQ (.slice Av lv cv) (m.buf ++ [(a, x)]) :: row IW 2 (.slice A n c) m.mem :: L) := by
      have h := HS.tail
      have e : (mcL s vc (.slice A n c) (.slice Ab nb cq) vs vt win left).toArray.setIfInBounds 71 (.slice Av lv cv) = (mcL s vc (.slice A n c) (.slice Av lv cv) vs vt win left).toArray := by
        rw [mcL_setTail hs 2 (.slice Av lv cv) rfl, List.setIfInBounds_toArray]
      unfold MB BQ at h ⊢
      rw [← e, List.map_append]
      exact h
    go_wp2
    go_ret
    exact ⟨rfl, vClose hs HS⟩
  · rw [if_neg h]
    have hq : (wRd m.mem a).2 = false := by simpa using h
    go_enter Try.func62, Try.ntmps62
    go_upto_region 1 with ((with_reducible refine gate_dst (N := 3) rfl ?_); go_must (refine ev_box HS rfl (N := 3) rfl (cs := #[.pointer (some ⟨g, 0, none⟩), .bool skip]) (t := 96) ?hrun ?_); (case hrun => first | (go_simp; done) | (go_simp; rfl)); clear HS; intro gb w HS)
    have cb := HS.cell 0 rfl
    have c70 : w.cell? ⟨g, 70, none⟩ = some (.slice A n c) := mcellT hs HS 1 rfl 1
    go_wp2_with (go_at_call 59; refine (read_calls (m := m.mem) a 3 rfl HS).mono ?_; rintro e w_ ⟨rfl, HS_⟩; clear HS; have HS := HS_; clear HS_; rw [hq])
    go_ret
    exact ⟨rfl, vClose hs HS.tail⟩
/-- The machine over what it sees of memory. -/
def sMem (g : Nat) (A : Option Addr) (n c : Nat) (vc vs vt : Value) (win left : Int) (skip : Bool) : Mem g VM where
  f := vF skip
  T := 96
  self := .agg #[.pointer (some ⟨g, 0, none⟩), .bool skip]
  fR := 61
  fW := 62
  sR := .agg #[.pointer (some ⟨g, 0, none⟩), .bool skip]
  sW := .agg #[.pointer (some ⟨g, 0, none⟩), .bool skip]
  ch := vch g A n c vc vs vt win left
  ok := fun m => m.buf.length ≤ 1000000
  cell := fun HS j hj => by
    obtain ⟨vb, hs, HS⟩ := vOpen HS
    exact mcell hs HS 0 rfl j hj
  frz := fun HS j => by
    obtain ⟨vb, hs, HS⟩ := vOpen HS
    exact HS.frozen 0 rfl j
  set := fun {W0 w L s s' m} HS j v hj he => by
    obtain ⟨vb, hs, HS⟩ := vOpen HS
    have h := HS.store 0 rfl j v
    have hs' : s'.regs.length = 64 := by
      have e := congrArg List.length he
      rw [List.length_set, stL_length hs] at e
      simp [stL] at e
      exact e
    refine vClose hs' (vb := vb) ?_
    unfold MB at h ⊢
    rw [mcL_set hs j v hj he]
    rw [List.setIfInBounds_toArray] at h
    exact h
  mR := fun w => by kernel_rfl
  mW := fun w => by kernel_rfl
  nW := fun w => by kernel_rfl
  eR := fun args w => by kernel_rfl
  eW := fun args w => by kernel_rfl
  hR := fun {W0 w L s m} a hs hok HS => vread_calls skip a hok HS
  hW := fun {W0 w L s m} a v hs hok HS => vwrite_calls skip a v hok HS
end

end Go.Proofs.Ytkgoljbimblkhaa.B
