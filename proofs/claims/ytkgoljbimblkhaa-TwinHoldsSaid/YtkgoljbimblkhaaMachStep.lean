/- The machine's steps, fourth part: the contract of Step. -/
import Derived.Test.YtkgoljbimblkhaaMachDo2
namespace Go.Proofs.Ytkgoljbimblkhaa.B
open Go.RowKit Go.Proofs.Ytkgoljbimblkhaa.Mine Go.Proofs.Ytkgoljbimblkhaa.Sep Go.Proofs.YtkgoljbimblkhaaW.PrintWords Go.Proofs.YtkgoljbimblkhaaW.PrintLast Go.Proofs.YtkgoljbimblkhaaW.PrintMore
set_option linter.unusedVariables false
set_option linter.unusedSimpArgs false

theorem reachF_len {M : Type} (f : MF M) (i : S56) (s : St) (m : M) : (reachF f i s m).2.2.length ≤ 2 := by
  unfold reachF
  split <;> split <;> simp
theorem callF_len {M : Type} (f : MF M) (i : S56) (s : St) (m : M) : (callF f i s m).2.2.length ≤ 2 := by
  unfold callF
  split <;> split <;> simp
theorem doF_len {M : Type} (f : MF M) (i : S56) (s : St) (m : M) : (doF f i s m).2.2.length ≤ 2 := by
  unfold doF
  split
  · simp
  split
  · simp
  split
  · split <;> split <;> simp
  split
  · exact reachF_len f i s m
  split
  · simp
  split
  · split <;> simp
  split
  · exact callF_len f i s m
  split
  · simp
  split <;> simp
def stepF {M : Type} (f : MF M) (code : List S56) (s : St) (m : M) : St × M × List S66 :=
  if s.ended = true then (s, m, [])
  else if s.pc < 0 ∨ (code.length : Int) ≤ s.pc then (stopF { s with steps := wrap64 (s.steps + 1) } 4, m, [⟨1, s.pc, 0⟩, ⟨5, 4, 0⟩])
  else ((doF f (rd_T56 code s.pc) { s with steps := wrap64 (s.steps + 1) } m).1, (doF f (rd_T56 code s.pc) { s with steps := wrap64 (s.steps + 1) } m).2.1, ⟨1, s.pc, 0⟩ :: (doF f (rd_T56 code s.pc) { s with steps := wrap64 (s.steps + 1) } m).2.2)
section
variable {g : Nat} {M : Type} (Me : Mem g M) {W0 w : World} {L : List Chunk} {s : St} {m : M} {A : Option Addr} {c : Nat} {code : List S56}
set_option maxRecDepth 100000 in
set_option maxHeartbeats 1000000 in
theorem step_ended (he : s.ended = true) (hs : s.regs.length = 64) (HS : Sat W0 w (Me.ch s m :: L)) :
    Calls Try.prog 19 #[.pointer (some ⟨g, 0, none⟩), .slice A code.length c, .iface Me.T Me.self] w (DoPost Me W0 L (s, m, [])) := by
  have c65 := (Me.cell HS 65 (by decide)).trans (stL_ended hs)
  rw [he] at c65
  have fs := Me.frz HS
  go_enter Try.func19, Try.ntmps19
  go_wp2
  go_ret
  exact ⟨_, rfl, HS.nil _ _⟩
set_option maxRecDepth 100000 in
set_option maxHeartbeats 1000000 in
theorem step_wild (he : s.ended = false) (hp : s.pc < 0 ∨ (code.length : Int) ≤ s.pc) (hs : s.regs.length = 64) (HS : Sat W0 w (Me.ch s m :: L)) :
    Calls Try.prog 19 #[.pointer (some ⟨g, 0, none⟩), .slice A code.length c, .iface Me.T Me.self] w (DoPost Me W0 L (stopF { s with steps := wrap64 (s.steps + 1) } 4, m, [⟨1, s.pc, 0⟩, ⟨5, 4, 0⟩])) := by
  have c65 := (Me.cell HS 65 (by decide)).trans (stL_ended hs)
  rw [he] at c65
  have c68 := (Me.cell HS 68 (by decide)).trans (stL_steps hs)
  have fs := Me.frz HS
  go_enter Try.func19, Try.ntmps19
  go_upto_region 4 with (fail)
  refine wp_sat (Me.set HS 68 (.int .i64 (wrap64 (s.steps + 1))) (by decide) (set_steps hs _)) (fun w HS => ?_)
  have c64 := (Me.cell HS 64 (by decide)).trans (stL_pc (s := { s with steps := wrap64 (s.steps + 1) }) hs)
  dsimp only at c64
  have fs := Me.frz HS
  go_upto_region 5 with ((with_reducible refine gate_dst (N := 24) rfl ?_); go_must (refine ev_lit k66 (e := 66) HS rfl (N := 24) rfl (xs := [⟨1, s.pc, 0⟩]) (inner := [.int .i64 1, .int .i64 s.pc, .int .i64 0]) ?hrun (reps1 ⟨1, s.pc, 0⟩) (by first | decide | simp) ?_); (case hrun => first | (go_simp; done) | (go_simp; rfl)); clear HS; intro gl w HS)
  replace HS := HS.swap
  have c64 := (Me.cell HS 64 (by decide)).trans (stL_pc (s := { s with steps := wrap64 (s.steps + 1) }) hs)
  dsimp only at c64
  have fs := Me.frz HS
  by_cases h0 : s.pc < 0
  · have h0b : decide (s.pc < 0) = true := decide_eq_true h0
    clear hp
    go_wp2_with (first | (go_at_call 26; (with_reducible refine (stop_calls Me (4) (s := { s with steps := wrap64 (s.steps + 1) }) hs HS).mono ?_); rintro e w_ ⟨rfl, HS_⟩; clear HS; have HS := HS_; clear HS_) | ((with_reducible refine gate_dst (N := 42) rfl ?_); go_must (refine ev_lit k66 (e := 66) HS rfl (N := 42) rfl (xs := [⟨5, 4, 0⟩]) (inner := [.int .i64 5, .int .i64 (4), .int .i64 0]) ?hrun (reps1 ⟨5, 4, 0⟩) (by first | decide | simp) ?_); (case hrun => first | (go_simp; done) | (go_simp; rfl)); clear HS; intro gm w HS) | ((with_reducible refine gate_builtin (b := .append) (xs := #[.tmp 39, .tmp 42]) rfl ?_); go_must (refine ev_append k66 HS 2 (.tmp 39) (.tmp 42) 31 66 (.agg #[.int .i64 0, .int .i64 0, .int .i64 0]) 24 rfl (HS.C 0 rfl) (fun _ _ h => h) rfl rfl rfl rfl Try.underlying31 info66 rfl (by decide) (by omega) ((by simp)) ?_); clear HS; intro vo w HS))
    go_ret
    exact ⟨_, rfl, HS.tail.swap⟩
  · have h0b : decide (s.pc < 0) = false := decide_eq_false h0
    have h1 : (code.length : Int) ≤ s.pc := by rcases hp with h | h; exact absurd h h0; exact h
    have h1b : decide ((code.length : Int) ≤ s.pc) = true := decide_eq_true h1
    clear hp
    go_wp2_with (first | (go_at_call 26; (with_reducible refine (stop_calls Me (4) (s := { s with steps := wrap64 (s.steps + 1) }) hs HS).mono ?_); rintro e w_ ⟨rfl, HS_⟩; clear HS; have HS := HS_; clear HS_) | ((with_reducible refine gate_dst (N := 42) rfl ?_); go_must (refine ev_lit k66 (e := 66) HS rfl (N := 42) rfl (xs := [⟨5, 4, 0⟩]) (inner := [.int .i64 5, .int .i64 (4), .int .i64 0]) ?hrun (reps1 ⟨5, 4, 0⟩) (by first | decide | simp) ?_); (case hrun => first | (go_simp; done) | (go_simp; rfl)); clear HS; intro gm w HS) | ((with_reducible refine gate_builtin (b := .append) (xs := #[.tmp 39, .tmp 42]) rfl ?_); go_must (refine ev_append k66 HS 2 (.tmp 39) (.tmp 42) 31 66 (.agg #[.int .i64 0, .int .i64 0, .int .i64 0]) 24 rfl (HS.C 0 rfl) (fun _ _ h => h) rfl rfl rfl rfl Try.underlying31 info66 rfl (by decide) (by omega) ((by simp)) ?_); clear HS; intro vo w HS))
    go_ret
    exact ⟨_, rfl, HS.tail.swap⟩
set_option maxRecDepth 100000 in
set_option maxHeartbeats 1000000 in
theorem step_does (he : s.ended = false) (h0 : 0 ≤ s.pc) (h1 : s.pc < (code.length : Int)) (hC : ∀ w, Sat W0 w L → Kd.C k56 w A code.length code) (hfit : Fit (rd_T56 code s.pc)) (hok : Me.ok m) (hs : s.regs.length = 64) (HS : Sat W0 w (Me.ch s m :: L)) :
    Calls Try.prog 19 #[.pointer (some ⟨g, 0, none⟩), .slice A code.length c, .iface Me.T Me.self] w
      (DoPost Me W0 L ((doF Me.f (rd_T56 code s.pc) { s with steps := wrap64 (s.steps + 1) } m).1, (doF Me.f (rd_T56 code s.pc) { s with steps := wrap64 (s.steps + 1) } m).2.1, ⟨1, s.pc, 0⟩ :: (doF Me.f (rd_T56 code s.pc) { s with steps := wrap64 (s.steps + 1) } m).2.2)) := by
  have c65 := (Me.cell HS 65 (by decide)).trans (stL_ended hs)
  rw [he] at c65
  have c68 := (Me.cell HS 68 (by decide)).trans (stL_steps hs)
  have fs := Me.frz HS
  have hlen := doF_len Me.f (rd_T56 code s.pc) { s with steps := wrap64 (s.steps + 1) } m
  obtain ⟨r, hr⟩ : ∃ r, r = doF Me.f (rd_T56 code s.pc) { s with steps := wrap64 (s.steps + 1) } m := ⟨_, rfl⟩
  rw [← hr] at hlen ⊢
  have HRR := Aside0.mk hr
  clear hr
  have hfit' := Aside0.mk hfit
  clear hfit
  obtain ⟨pc, hpc⟩ : ∃ pc, pc = s.pc := ⟨_, rfl⟩
  rw [← hpc] at h0 h1 ⊢
  have HPC := Aside0.mk hpc
  clear hpc
  have h0b : decide (pc < 0) = false := decide_eq_false (by omega)
  have h1b : decide ((code.length : Int) ≤ pc) = false := decide_eq_false (by omega)
  go_enter Try.func19, Try.ntmps19
  go_upto_region 4 with (fail)
  refine wp_sat (Me.set HS 68 (.int .i64 (wrap64 (s.steps + 1))) (by decide) (set_steps hs _)) (fun w HS => ?_)
  have c64 : w.cell? ⟨g, 64, none⟩ = some (.int .i64 pc) := by rw [HPC.out]; exact (Me.cell HS 64 (by decide)).trans (stL_pc (s := { s with steps := wrap64 (s.steps + 1) }) hs)
  have fs := Me.frz HS
  go_upto_region 5 with ((with_reducible refine gate_dst (N := 24) rfl ?_); go_must (refine ev_lit k66 (e := 66) HS rfl (N := 24) rfl (xs := [⟨1, pc, 0⟩]) (inner := [.int .i64 1, .int .i64 pc, .int .i64 0]) ?hrun (reps1 ⟨1, pc, 0⟩) (by first | decide | simp) ?_); (case hrun => first | (go_simp; done) | (go_simp; rfl)); clear HS; intro gl w HS)
  replace HS := HS.swap
  have c64 : w.cell? ⟨g, 64, none⟩ = some (.int .i64 pc) := by rw [HPC.out]; exact (Me.cell HS 64 (by decide)).trans (stL_pc (s := { s with steps := wrap64 (s.steps + 1) }) hs)
  have fs := Me.frz HS
  obtain ⟨ad, rfl, x0, x1, x2, x3, x4, x5⟩ := at_T56 (hC w HS.tail.tail) pc h0 h1
  have q1 := eq_true h0
  have q2 := eq_true h1
  have R := do_calls Me (rd_T56 code s.pc) hfit'.out hok (s := { s with steps := wrap64 (s.steps + 1) }) hs HS
  rw [← HRR.out] at R
  unfold insV at R
  rw [← HPC.out] at R
  have HR := Aside0.mk R
  clear R
  go_wp2_with (first | (go_at_call 27; (with_reducible refine HR.out.mono ?_); rintro e w_ ⟨v, rfl, HS_⟩; clear HS; have HS := HS_; clear HS_; obtain ⟨Av, cv, rfl⟩ := HS.slice 0 rfl) | ((with_reducible refine gate_builtin (b := .append) (xs := #[.tmp 44, .tmp 54]) rfl ?_); go_must (refine ev_append k66 HS 2 (.tmp 44) (.tmp 54) 31 66 (.agg #[.int .i64 0, .int .i64 0, .int .i64 0]) 24 rfl (HS.C 0 rfl) (fun _ _ h => h) rfl rfl rfl rfl Try.underlying31 info66 rfl (by decide) (by omega) ((by simp; omega)) ?_); clear HS; intro vo w HS))
  go_ret
  exact ⟨_, rfl, HS.tail.swap⟩
theorem step_calls (hC : ∀ w, Sat W0 w L → Kd.C k56 w A code.length code) (hfit : ∀ i ∈ code, Fit i) (hok : Me.ok m) (hs : s.regs.length = 64) (HS : Sat W0 w (Me.ch s m :: L)) :
    Calls Try.prog 19 #[.pointer (some ⟨g, 0, none⟩), .slice A code.length c, .iface Me.T Me.self] w (DoPost Me W0 L (stepF Me.f code s m)) := by
  unfold stepF
  split
  · rename_i he
    exact step_ended Me he hs HS
  · rename_i he
    have he : s.ended = false := by simpa using he
    split
    · rename_i hp
      exact step_wild Me he hp hs HS
    · rename_i hp
      have h0 : 0 ≤ s.pc := by omega
      have h1 : s.pc < (code.length : Int) := by omega
      exact step_does Me he h0 h1 hC (hfit _ (by unfold rd_T56; rw [List.getD_eq_getElem?_getD, List.getElem?_eq_getElem (by omega)]; exact List.getElem_mem _)) hok hs HS
end
end Go.Proofs.Ytkgoljbimblkhaa.B
