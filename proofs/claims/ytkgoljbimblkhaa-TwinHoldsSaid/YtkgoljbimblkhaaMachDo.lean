/- The machine's steps, second part: contracts of call, do and Step. -/
import Derived.Test.YtkgoljbimblkhaaMach
namespace Go.Proofs.Ytkgoljbimblkhaa.B
open Go.RowKit Go.Proofs.Ytkgoljbimblkhaa.Mine Go.Proofs.Ytkgoljbimblkhaa.Sep Go.Proofs.YtkgoljbimblkhaaW.PrintWords Go.Proofs.YtkgoljbimblkhaaW.PrintLast Go.Proofs.YtkgoljbimblkhaaW.PrintMore
set_option linter.unusedVariables false
set_option linter.unusedSimpArgs false

def callF {M : Type} (f : MF M) (i : S56) (s : St) (m : M) : St × M × List S66 :=
  if i.f0 = 8 then
    if (f.wr m (rd s.regs 63) (wrap64 (s.pc + 1))).2 = true then ({ s with pc := i.f5 }, (f.wr m (rd s.regs 63) (wrap64 (s.pc + 1))).1, [⟨2, rd s.regs 63, 0⟩])
    else (stopF s 4, (f.wr m (rd s.regs 63) (wrap64 (s.pc + 1))).1, [⟨2, rd s.regs 63, 0⟩, ⟨5, 4, 0⟩])
  else
    if (f.rd m (rd s.regs 63)).2 = true ∧ 0 ≤ (f.rd m (rd s.regs 63)).1 ∧ (f.rd m (rd s.regs 63)).1 < 32768 then ({ s with pc := (f.rd m (rd s.regs 63)).1 }, m, [⟨2, rd s.regs 63, 0⟩])
    else (stopF s 4, m, [⟨2, rd s.regs 63, 0⟩, ⟨5, 4, 0⟩])
set_option maxRecDepth 100000 in
set_option maxHeartbeats 1000000 in
theorem call_calls {g : Nat} {M : Type} (Me : Mem g M) {W0 w : World} {L : List Chunk} {s : St} {m : M} (i : S56) (hok : Me.ok m) (hs : s.regs.length = 64) (HS : Sat W0 w (Me.ch s m :: L)) :
    Calls Try.prog 38 #[.pointer (some ⟨g, 0, none⟩), insV i, .iface Me.T Me.self] w fun e w' => ∃ v, e = .returned v ∧ Sat W0 w' (row k66 66 v (callF Me.f i s m).2.2 :: Me.ch (callF Me.f i s m).1 (callF Me.f i s m).2.1 :: L) := by
  obtain ⟨i0, i1, i2, i3, i4, i5⟩ := i
  unfold insV
  dsimp only
  obtain ⟨a, ha⟩ : ∃ a, a = rd s.regs 63 := ⟨_, rfl⟩
  have hF : callF Me.f (⟨i0, i1, i2, i3, i4, i5⟩ : S56) s m = (if i0 = 8 then
    if (Me.f.wr m a (wrap64 (s.pc + 1))).2 = true then ({ s with pc := i5 }, (Me.f.wr m a (wrap64 (s.pc + 1))).1, [⟨2, a, 0⟩])
    else (stopF s 4, (Me.f.wr m a (wrap64 (s.pc + 1))).1, [⟨2, a, 0⟩, ⟨5, 4, 0⟩])
  else
    if (Me.f.rd m a).2 = true ∧ 0 ≤ (Me.f.rd m a).1 ∧ (Me.f.rd m a).1 < 32768 then ({ s with pc := (Me.f.rd m a).1 }, m, [⟨2, a, 0⟩])
    else (stopF s 4, m, [⟨2, a, 0⟩, ⟨5, 4, 0⟩])) := by subst ha; rfl
  have HF := Aside0.mk hF
  clear hF
  have HA := Aside0.mk ha
  clear ha
  go_enter Try.func38, Try.ntmps38
  go_upto_region 1 with ((with_reducible refine gate_dst (N := 4) rfl ?_); go_must (refine ev_box HS rfl (N := 4) rfl (cs := #[.int .i64 i0, .int .i64 i1, .int .i64 i2, .int .i64 i3, .int .i64 i4, .int .i64 i5]) (t := 56) ?hrun ?_); (case hrun => first | (go_simp; done) | (go_simp; rfl)); clear HS; intro gb w HS)
  have c63 : w.cell? ⟨g, 63, none⟩ = some (.int .i64 a) := by rw [HA.out]; exact mem_reg Me hs HS.swap 63 (by decide) (by decide)
  go_upto_region 3 with ((with_reducible refine gate_dst (N := 18) rfl ?_); go_must (refine ev_lit k66 (e := 66) HS rfl (N := 18) rfl (xs := [⟨2, a, 0⟩]) (inner := [.int .i64 2, .int .i64 a, .int .i64 0]) ?hrun (reps1 ⟨2, a, 0⟩) (by first | decide | simp) ?_); (case hrun => first | (go_simp; done) | (go_simp; rfl)); clear HS; intro gl w HS)
  have cb := HS.cell 1 rfl
  have HT := HS.front 2 rfl
  have fs := Me.frz HT
  by_cases h8 : i0 = 8
  · have mW := Me.mW
    have eW := Me.eW
    have nW := Me.nW
    have c64 := (Me.cell HT 64 (by decide)).trans (stL_pc hs)
    by_cases hq : (Me.f.wr m a (wrap64 (s.pc + 1))).2 = true
    · have e := HF.out
      rw [if_pos h8, if_pos hq] at e
      have E := Aside0.mk e
      clear HF e HT
      subst h8
      go_wp2
      go_still_tail 10, (by kernel_rfl)
      simp only [i64_w]
      (replace HS := HS.drew; (first | show Exit.then _ _ _ _ (World.drew w) | show wpList _ _ _ _ _ (World.drew w)); generalize World.drew w = wd at HS ⊢)
      replace HS := HS.front 2 rfl
      go_upto_region 6 with ((with_reducible refine (Me.hW a (wrap64 (s.pc + 1)) hs hok HS).mono ?_); rintro e w_ ⟨rfl, HS_⟩; clear HS; have HS := HS_; clear HS_)
      have cb := HS.cell 2 rfl
      have c64 := (Me.cell HS 64 (by decide)).trans (stL_pc hs)
      have fs := Me.frz HS
      go_wp2
      go_ret
      rw [E.out]
      exact ⟨_, rfl, (Me.set HS 64 (.int .i64 i5) (by decide) (set_pc hs _)).swap.erase 2⟩
    · have e := HF.out
      rw [if_pos h8, if_neg hq] at e
      have E := Aside0.mk e
      clear HF e HT
      have hqb : (Me.f.wr m a (wrap64 (s.pc + 1))).2 = false := by simpa using hq
      subst h8
      go_wp2
      go_still_tail 10, (by kernel_rfl)
      simp only [i64_w]
      (replace HS := HS.drew; (first | show Exit.then _ _ _ _ (World.drew w) | show wpList _ _ _ _ _ (World.drew w)); generalize World.drew w = wd at HS ⊢)
      replace HS := HS.front 2 rfl
      go_upto_region 5 with ((with_reducible refine (Me.hW a (wrap64 (s.pc + 1)) hs hok HS).mono ?_); rintro e w_ ⟨rfl, HS_⟩; clear HS; have HS := HS_; clear HS_)
      go_wp2_with (first | (go_at_call 26; (with_reducible refine (stop_calls Me 4 hs HS).mono ?_); rintro e w_ ⟨rfl, HS_⟩; clear HS; have HS := HS_; clear HS_) | ((with_reducible refine gate_dst (N := 37) rfl ?_); go_must (refine ev_lit k66 (e := 66) HS rfl (N := 37) rfl (xs := [⟨5, 4, 0⟩]) (inner := [.int .i64 5, .int .i64 (4), .int .i64 0]) ?hrun (reps1 ⟨5, 4, 0⟩) (by first | decide | simp) ?_); (case hrun => first | (go_simp; done) | (go_simp; rfl)); clear HS; intro gm w HS) | ((with_reducible refine gate_builtin (b := .append) (xs := #[.tmp 34, .tmp 37]) rfl ?_); go_must (refine ev_append k66 HS 2 (.tmp 34) (.tmp 37) 31 66 (.agg #[.int .i64 0, .int .i64 0, .int .i64 0]) 24 rfl (HS.C 0 rfl) (fun _ _ h => h) rfl rfl rfl rfl Try.underlying31 info66 rfl (by decide) (by omega) ((by simp)) ?_); clear HS; intro vo w HS))
      go_ret
      rw [E.out]
      exact ⟨_, rfl, HS.tail.swap.erase 2⟩
  · have h8b : (i0 == 8) = false := beq_eq_false_iff_ne.mpr h8
    have mR := Me.mR
    have eR := Me.eR
    go_upto_region 9 with ((with_reducible refine (Me.hR a hs hok (HS.front 2 rfl)).mono ?_); rintro e w_ ⟨rfl, HS_⟩; clear HS; have HS := HS_; clear HS_)
    by_cases hq : (Me.f.rd m a).2 = true ∧ 0 ≤ (Me.f.rd m a).1 ∧ (Me.f.rd m a).1 < 32768
    · have e := HF.out
      rw [if_neg h8, if_pos hq] at e
      have E := Aside0.mk e
      clear HF e HT
      obtain ⟨q1, q2, q3⟩ := hq
      have q2b : decide ((Me.f.rd m a).1 < 0) = false := decide_eq_false (by omega)
      have q3b : decide (32768 ≤ (Me.f.rd m a).1) = false := decide_eq_false (by omega)
      have c64 := (Me.cell HS 64 (by decide)).trans (stL_pc hs)
      have fs := Me.frz HS
      go_wp2
      go_ret
      rw [E.out]
      exact ⟨_, rfl, (Me.set HS 64 (.int .i64 (Me.f.rd m a).1) (by decide) (set_pc hs _)).swap.erase 2⟩
    · have e := HF.out
      rw [if_neg h8, if_neg hq] at e
      have E := Aside0.mk e
      clear HF e HT
      by_cases q1 : (Me.f.rd m a).2 = true
      · by_cases q2 : (Me.f.rd m a).1 < 0
        · have q2b : decide ((Me.f.rd m a).1 < 0) = true := decide_eq_true q2
          clear hq
          go_wp2_with (first | (go_at_call 26; (with_reducible refine (stop_calls Me 4 hs HS).mono ?_); rintro e w_ ⟨rfl, HS_⟩; clear HS; have HS := HS_; clear HS_) | ((with_reducible refine gate_dst (N := 64) rfl ?_); go_must (refine ev_lit k66 (e := 66) HS rfl (N := 64) rfl (xs := [⟨5, 4, 0⟩]) (inner := [.int .i64 5, .int .i64 (4), .int .i64 0]) ?hrun (reps1 ⟨5, 4, 0⟩) (by first | decide | simp) ?_); (case hrun => first | (go_simp; done) | (go_simp; rfl)); clear HS; intro gm w HS) | ((with_reducible refine gate_builtin (b := .append) (xs := #[.tmp 61, .tmp 64]) rfl ?_); go_must (refine ev_append k66 HS 2 (.tmp 61) (.tmp 64) 31 66 (.agg #[.int .i64 0, .int .i64 0, .int .i64 0]) 24 rfl (HS.C 0 rfl) (fun _ _ h => h) rfl rfl rfl rfl Try.underlying31 info66 rfl (by decide) (by omega) ((by simp)) ?_); clear HS; intro vo w HS))
          go_ret
          rw [E.out]
          exact ⟨_, rfl, HS.tail.swap.erase 2⟩
        · have q2b : decide ((Me.f.rd m a).1 < 0) = false := decide_eq_false q2
          have q3b : decide (32768 ≤ (Me.f.rd m a).1) = true := decide_eq_true (Int.not_lt.1 (fun h => hq ⟨q1, by omega, h⟩))
          clear hq
          go_wp2_with (first | (go_at_call 26; (with_reducible refine (stop_calls Me 4 hs HS).mono ?_); rintro e w_ ⟨rfl, HS_⟩; clear HS; have HS := HS_; clear HS_) | ((with_reducible refine gate_dst (N := 64) rfl ?_); go_must (refine ev_lit k66 (e := 66) HS rfl (N := 64) rfl (xs := [⟨5, 4, 0⟩]) (inner := [.int .i64 5, .int .i64 (4), .int .i64 0]) ?hrun (reps1 ⟨5, 4, 0⟩) (by first | decide | simp) ?_); (case hrun => first | (go_simp; done) | (go_simp; rfl)); clear HS; intro gm w HS) | ((with_reducible refine gate_builtin (b := .append) (xs := #[.tmp 61, .tmp 64]) rfl ?_); go_must (refine ev_append k66 HS 2 (.tmp 61) (.tmp 64) 31 66 (.agg #[.int .i64 0, .int .i64 0, .int .i64 0]) 24 rfl (HS.C 0 rfl) (fun _ _ h => h) rfl rfl rfl rfl Try.underlying31 info66 rfl (by decide) (by omega) ((by simp)) ?_); clear HS; intro vo w HS))
          go_ret
          rw [E.out]
          exact ⟨_, rfl, HS.tail.swap.erase 2⟩
      · have q1b : (Me.f.rd m a).2 = false := by simpa using q1
        clear hq
        go_wp2_with (first | (go_at_call 26; (with_reducible refine (stop_calls Me 4 hs HS).mono ?_); rintro e w_ ⟨rfl, HS_⟩; clear HS; have HS := HS_; clear HS_) | ((with_reducible refine gate_dst (N := 64) rfl ?_); go_must (refine ev_lit k66 (e := 66) HS rfl (N := 64) rfl (xs := [⟨5, 4, 0⟩]) (inner := [.int .i64 5, .int .i64 (4), .int .i64 0]) ?hrun (reps1 ⟨5, 4, 0⟩) (by first | decide | simp) ?_); (case hrun => first | (go_simp; done) | (go_simp; rfl)); clear HS; intro gm w HS) | ((with_reducible refine gate_builtin (b := .append) (xs := #[.tmp 61, .tmp 64]) rfl ?_); go_must (refine ev_append k66 HS 2 (.tmp 61) (.tmp 64) 31 66 (.agg #[.int .i64 0, .int .i64 0, .int .i64 0]) 24 rfl (HS.C 0 rfl) (fun _ _ h => h) rfl rfl rfl rfl Try.underlying31 info66 rfl (by decide) (by omega) ((by simp)) ?_); clear HS; intro vo w HS))
        go_ret
        rw [E.out]
        exact ⟨_, rfl, HS.tail.swap.erase 2⟩

theorem shift_count (b : Int) : 0 ≤ Go.bits .and .u64 (IntKind.u64.wrap b) 63 := by
  exact wrap_u64_nonneg _
def doW (op x y : Int) : Int × Bool := (word_Do.f 2 op x y).getD (0, false)
theorem some_ite {α : Type} {c : Prop} [Decidable c] {a b : Option α} (ha : ∃ r, a = some r) (hb : ∃ r, b = some r) : ∃ r, (if c then a else b) = some r := by
  by_cases h : c
  · rw [if_pos h]; exact ha
  · rw [if_neg h]; exact hb
theorem some_ite' {α : Type} {c : Prop} [Decidable c] {a b : Option α} (ha : c → ∃ r, a = some r) (hb : ¬ c → ∃ r, b = some r) : ∃ r, (if c then a else b) = some r := by
  by_cases h : c
  · rw [if_pos h]; exact ha h
  · rw [if_neg h]; exact hb h
theorem bool_some (b : Bool) : ∃ r, word_Bool.f b = some r := some_ite ⟨_, rfl⟩ ⟨_, rfl⟩
theorem bind_some {α β : Type} {a : Option α} {f : α → Option β} (ha : ∃ r, a = some r) (hf : ∀ r, ∃ q, f r = some q) : ∃ r, a.bind f = some r := by
  obtain ⟨r, rfl⟩ := ha
  exact hf r
theorem divide_some (op x y : Int) : ∃ r, word_divide.f 1 op x y = some r := by
  have h : word_divide.f 1 op x y = (if y = 0 then some (0, false) else if y = (-1) then (if (op == 4) = true then some (wrap64 (-x), true) else if y = (-1) then some (0, true) else if op = 4 then (if y = 0 then none else some (wrap64 (Int.tdiv x y), true)) else (if y = 0 then none else some (Int.tmod x y, true))) else (if false = true then some (wrap64 (-x), true) else if y = (-1) then some (0, true) else if op = 4 then (if y = 0 then none else some (wrap64 (Int.tdiv x y), true)) else (if y = 0 then none else some (Int.tmod x y, true)))) := rfl
  rw [h]
  refine some_ite' (fun _ => ⟨_, rfl⟩) (fun h0 => ?_)
  refine some_ite (some_ite ⟨_, rfl⟩ (some_ite ⟨_, rfl⟩ (some_ite ?_ ?_))) (some_ite ⟨_, rfl⟩ (some_ite ⟨_, rfl⟩ (some_ite ?_ ?_)))
  all_goals (rw [if_neg h0]; exact ⟨_, rfl⟩)
theorem do_j0_some (op x y : Int) (b : Bool) : ∃ r, word_Do.j0 2 op x y op b = some r := by
  show ∃ r, (if b = true then ((word_divide.f 1 op x y).bind fun bt112 => some (bt112.1, bt112.2)) else _) = some r
  refine some_ite (bind_some (divide_some op x y) (fun r => ⟨_, rfl⟩)) (some_ite ⟨_, rfl⟩ (some_ite ⟨_, rfl⟩ (some_ite ⟨_, rfl⟩ (some_ite ?_ (some_ite ?_ (some_ite ?_ (some_ite ?_ (some_ite ?_ (some_ite ?_ (some_ite ?_ ⟨_, rfl⟩))))))))))
  · rw [if_pos (shift_count y)]; exact ⟨_, rfl⟩
  · rw [if_pos (shift_count y)]; exact ⟨_, rfl⟩
  all_goals exact bind_some (bool_some _) (fun r => ⟨_, rfl⟩)
theorem doW_some (op x y : Int) : word_Do.f 2 op x y = some (doW op x y) := by
  have h : ∃ r, word_Do.f 2 op x y = some r := some_ite ⟨_, rfl⟩ (some_ite ⟨_, rfl⟩ (some_ite ⟨_, rfl⟩ (some_ite (do_j0_some op x y _) (do_j0_some op x y _))))
  obtain ⟨r, hr⟩ := h
  unfold doW
  rw [hr]
  rfl
end Go.Proofs.Ytkgoljbimblkhaa.B
