/- (code.Ins).Right tells whether an instruction has what its op has, and nothing else: its walk. -/
import Derived.Test.YtkgoljbimblkhaaBx2
import Derived.Test.YtkgoljbimblkhaaOpen
namespace Go.Proofs.Ytkgoljbimblkhaa.B
open Go.RowKit Go.Proofs.Ytkgoljbimblkhaa.Mine Go.Proofs.YtkgoljbimblkhaaW.PrintWords Go.Proofs.YtkgoljbimblkhaaW.PrintLast Go.Proofs.YtkgoljbimblkhaaW.PrintMore
set_option linter.unusedSimpArgs false
set_option linter.unusedVariables false

def pD (op : Int) : Bool := op == 1 || op == 2 || op == 3 || op == 4
def pA (op : Int) : Bool := op == 2 || op == 3 || op == 4 || op == 5 || op == 7 || op == 11
def pB (op : Int) : Bool := op == 3 || op == 5
def pI (op : Int) : Bool := op == 1 || op == 4 || op == 5 || op == 6 || op == 7 || op == 8 || op == 12
def regB (has : Bool) (n : Int) : Bool := if has then decide (0 ≤ n) && decide (n < 64) else n == 0
def knownB (o : Int) : Bool := decide (1 ≤ o) && decide (o ≤ 15)
def bad1 (op d a b imm : Int) : Bool := decide (op < 1) || decide (12 < op) || !regB (pD op) d || !regB (pA op) a || !regB (pB op) b || (!pI op && imm != 0)
def bad2 (op bin : Int) : Bool := ((op == 3) != knownB bin) || (op != 3 && bin != 0)
def bad3 (op imm : Int) : Bool := (op == 6 || op == 7 || op == 8) && (decide (imm < 0) || decide (32768 ≤ imm))
def bad4 (op imm : Int) : Bool := op == 12 && (decide (imm < 1) || decide (3 < imm))
def rightB (op d a b bin imm : Int) : Bool := !bad1 op d a b imm && !bad2 op bin && !bad3 op imm && !bad4 op imm

theorem parts_f (op : Int) : code_parts.f 20 op = some (pD op, pA op, pB op, pI op) := by
  by_cases h : 1 ≤ op ∧ op ≤ 12
  · have ho : op = 1 ∨ op = 2 ∨ op = 3 ∨ op = 4 ∨ op = 5 ∨ op = 6 ∨ op = 7 ∨ op = 8 ∨ op = 9 ∨ op = 10 ∨ op = 11 ∨ op = 12 := by omega
    rcases ho with rfl | rfl | rfl | rfl | rfl | rfl | rfl | rfl | rfl | rfl | rfl | rfl <;> rfl
  · have n : ∀ c : Int, 1 ≤ c → c ≤ 12 → ¬ op = c := by intro c h0 h1; omega
    have m : ∀ c : Int, 1 ≤ c → c ≤ 12 → (op == c) = false := fun c h0 h1 => by simpa using n c h0 h1
    unfold code_parts.f
    rw [if_neg (n 1 (by decide) (by decide)), if_neg (n 2 (by decide) (by decide)), if_neg (n 3 (by decide) (by decide)), if_neg (n 4 (by decide) (by decide)), if_neg (n 5 (by decide) (by decide)), if_neg (n 6 (by decide) (by decide)), if_neg (n 8 (by decide) (by decide))]
    rw [m 12 (by decide) (by decide)]
    simp only [code_parts.j0, Bool.false_eq_true, if_false]
    rw [if_neg (n 7 (by decide) (by decide)), if_neg (n 11 (by decide) (by decide))]
    unfold pD pA pB pI
    simp only [m 1 (by decide) (by decide), m 2 (by decide) (by decide), m 3 (by decide) (by decide), m 4 (by decide) (by decide), m 5 (by decide) (by decide), m 6 (by decide) (by decide), m 7 (by decide) (by decide), m 8 (by decide) (by decide), m 11 (by decide) (by decide), m 12 (by decide) (by decide), Bool.or_false]
theorem reg_f (has : Bool) (n : Int) : code_reg.f has n = some (regB has n) := by
  unfold code_reg.f regB
  cases has
  · rfl
  · simp only [if_true]
    by_cases h0 : n ≥ 0
    · rw [if_pos h0]
      by_cases h1 : n < 64
      · rw [if_pos h1]; simp [h0, h1]
      · rw [if_neg h1]; simp [h1]
    · rw [if_neg h0]; simp [h0]
theorem known_f (o : Int) : word_Op_Known.f o = some (knownB o) := by
  unfold word_Op_Known.f knownB
  by_cases h0 : o ≥ 1
  · rw [if_pos h0]; simp [h0]
  · rw [if_neg h0]; simp [h0]

set_option maxHeartbeats 4000000 in
set_option maxRecDepth 100000 in
theorem right_calls (op d a b bin imm : Int) (w : World) :
    Calls Try.prog 15 #[.agg #[.int .i64 op, .int .i64 d, .int .i64 a, .int .i64 b, .int .i64 bin, .int .i64 imm]] w fun e w' => e = .returned (.bool (rightB op d a b bin imm)) ∧ Below w.heap.size w w' := by
  have HB := Aside0.mk (Below.refl w.heap.size w)
  obtain ⟨pd, hpd⟩ : ∃ x, x = pD op := ⟨_, rfl⟩
  obtain ⟨pa, hpa⟩ : ∃ x, x = pA op := ⟨_, rfl⟩
  obtain ⟨pb, hpb⟩ : ∃ x, x = pB op := ⟨_, rfl⟩
  obtain ⟨pi, hpi⟩ : ∃ x, x = pI op := ⟨_, rfl⟩
  have A1 := Aside0.mk (parts_f op)
  rw [← hpd, ← hpa, ← hpb, ← hpi] at A1
  have HP := Aside0.mk (And.intro hpd (And.intro hpa (And.intro hpb hpi)))
  clear hpd hpa hpb hpi
  go_enter Try.func15, Try.ntmps15
  go_upto_region 2 with (first | ((with_reducible refine gate_dst (N := 1) rfl ?_); refine box_event ?hg (N := 1) ?hd (cs := #[.int .i64 op, .int .i64 d, .int .i64 a, .int .i64 b, .int .i64 bin, .int .i64 imm]) (t := 56) ?hr ?_; (case hd => rfl); (case hg => rfl); (case hr => first | (go_simp; done) | (go_simp; rfl)); intro gb hg w1 hbox hb; have n0_ := Aside0.mk (below_step (by repeat (first | (with_reducible first | exact HB.out | apply below_alloc | apply pw_below_drewN | apply below_drew1) | exact HB.out)) hb); have n1_ := Aside0.mk (hbox); have n2_ : w.heap.size ≤ gb := (by rw [hg]; exact (below_size (by repeat (first | (with_reducible first | exact HB.out | apply below_alloc | apply pw_below_drewN | apply below_drew1) | exact HB.out)))); clear HB; have HB := n0_; have BKgb := n1_; have GEgb := Aside0.mk n2_; clear n0_ n1_ n2_; clear hb hbox hg; have hczgb_0 : w1.cell? ⟨gb, 0, none⟩ = some (.int .i64 op) := (blk_cell BKgb.out 0).trans rfl; have hfzgb_0 := blk_frozen BKgb.out 0; have hczgb_1 : w1.cell? ⟨gb, 1, none⟩ = some (.int .i64 d) := (blk_cell BKgb.out 1).trans rfl; have hfzgb_1 := blk_frozen BKgb.out 1; have hczgb_2 : w1.cell? ⟨gb, 2, none⟩ = some (.int .i64 a) := (blk_cell BKgb.out 2).trans rfl; have hfzgb_2 := blk_frozen BKgb.out 2; have hczgb_3 : w1.cell? ⟨gb, 3, none⟩ = some (.int .i64 b) := (blk_cell BKgb.out 3).trans rfl; have hfzgb_3 := blk_frozen BKgb.out 3; have hczgb_4 : w1.cell? ⟨gb, 4, none⟩ = some (.int .i64 bin) := (blk_cell BKgb.out 4).trans rfl; have hfzgb_4 := blk_frozen BKgb.out 4; have hczgb_5 : w1.cell? ⟨gb, 5, none⟩ = some (.int .i64 imm) := (blk_cell BKgb.out 5).trans rfl; have hfzgb_5 := blk_frozen BKgb.out 5) | ((with_reducible refine gate_callee (f := 23) rfl ?_); refine goesL_ (some 10) rfl rfl Try.func23 (by kernel_rfl) rfl #[.int .i64 op] rfl (by (try simp only [List.map_toArray, List.map_cons, List.map_nil]); first | done | rfl | (simp only [List.length_drop, List.length_take]; rfl)) ?_; (with_reducible refine (code_parts.calls 20 op _ _ _ _ _ A1.out).mono ?_); rintro e w' ⟨rfl, ⟨nd, rfl⟩⟩; refine ⟨_, rfl, ?_⟩))
  go_cut [15] (fun v15 wc => v15 = .bool (bad1 op d a b imm) ∧ Aside0 (wc.heap[gb]? = some (.cells #[.int .i64 op, .int .i64 d, .int .i64 a, .int .i64 b, .int .i64 bin, .int .i64 imm] 56 (0, 0))) ∧ Aside0 (Below w.heap.size w wc))
  case first =>
    have RD := Aside0.mk (reg_f pd d)
    have RA := Aside0.mk (reg_f pa a)
    have RB := Aside0.mk (reg_f pb b)
    rcases Bool.eq_false_or_eq_true (decide (op < 1)) with e1 | e1
    ·
      go_wp2_with (first | (go_at_call 24; (with_reducible refine (code_reg.calls pd d (regB pd d) _ RD.out).mono ?_); rintro e w' ⟨rfl, ⟨nd, rfl⟩⟩; (try first | exact ⟨rfl, _, World.drewN_drewN _ _ _⟩ | exact ⟨rfl, _, Eq.trans (World.drewN_drewN _ _ _) (congrArg (World.drewN _) (Nat.add_assoc _ _ _))⟩)) | (go_at_call 24; (with_reducible refine (code_reg.calls pa a (regB pa a) _ RA.out).mono ?_); rintro e w' ⟨rfl, ⟨nd, rfl⟩⟩; (try first | exact ⟨rfl, _, World.drewN_drewN _ _ _⟩ | exact ⟨rfl, _, Eq.trans (World.drewN_drewN _ _ _) (congrArg (World.drewN _) (Nat.add_assoc _ _ _))⟩)) | (go_at_call 24; (with_reducible refine (code_reg.calls pb b (regB pb b) _ RB.out).mono ?_); rintro e w' ⟨rfl, ⟨nd, rfl⟩⟩; (try first | exact ⟨rfl, _, World.drewN_drewN _ _ _⟩ | exact ⟨rfl, _, Eq.trans (World.drewN_drewN _ _ _) (congrArg (World.drewN _) (Nat.add_assoc _ _ _))⟩)))
      go_meet
      case rel => exact ⟨by obtain ⟨h1, h2, h3, h4⟩ := HP.out; simp [bad1, ← h1, ← h2, ← h3, ← h4, e1], BKgb, ⟨by repeat (first | (with_reducible first | exact HB.out | apply below_alloc | apply pw_below_drewN | apply below_drew1) | exact HB.out)⟩⟩
    · rcases Bool.eq_false_or_eq_true (decide (12 < op)) with e2 | e2
      ·
        go_wp2_with (first | (go_at_call 24; (with_reducible refine (code_reg.calls pd d (regB pd d) _ RD.out).mono ?_); rintro e w' ⟨rfl, ⟨nd, rfl⟩⟩; (try first | exact ⟨rfl, _, World.drewN_drewN _ _ _⟩ | exact ⟨rfl, _, Eq.trans (World.drewN_drewN _ _ _) (congrArg (World.drewN _) (Nat.add_assoc _ _ _))⟩)) | (go_at_call 24; (with_reducible refine (code_reg.calls pa a (regB pa a) _ RA.out).mono ?_); rintro e w' ⟨rfl, ⟨nd, rfl⟩⟩; (try first | exact ⟨rfl, _, World.drewN_drewN _ _ _⟩ | exact ⟨rfl, _, Eq.trans (World.drewN_drewN _ _ _) (congrArg (World.drewN _) (Nat.add_assoc _ _ _))⟩)) | (go_at_call 24; (with_reducible refine (code_reg.calls pb b (regB pb b) _ RB.out).mono ?_); rintro e w' ⟨rfl, ⟨nd, rfl⟩⟩; (try first | exact ⟨rfl, _, World.drewN_drewN _ _ _⟩ | exact ⟨rfl, _, Eq.trans (World.drewN_drewN _ _ _) (congrArg (World.drewN _) (Nat.add_assoc _ _ _))⟩)))
        go_meet
        case rel => exact ⟨by obtain ⟨h1, h2, h3, h4⟩ := HP.out; simp [bad1, ← h1, ← h2, ← h3, ← h4, e1, e2], BKgb, ⟨by repeat (first | (with_reducible first | exact HB.out | apply below_alloc | apply pw_below_drewN | apply below_drew1) | exact HB.out)⟩⟩
      · rcases Bool.eq_false_or_eq_true (regB pd d) with hd | hd
        · rcases Bool.eq_false_or_eq_true (regB pa a) with ha | ha
          · rcases Bool.eq_false_or_eq_true (regB pb b) with hb | hb
            · cases pi
              · rcases Bool.eq_false_or_eq_true (imm != 0) with e3 | e3
                ·
                  go_wp2_with (first | (go_at_call 24; (with_reducible refine (code_reg.calls pd d (regB pd d) _ RD.out).mono ?_); rintro e w' ⟨rfl, ⟨nd, rfl⟩⟩; (try first | exact ⟨rfl, _, World.drewN_drewN _ _ _⟩ | exact ⟨rfl, _, Eq.trans (World.drewN_drewN _ _ _) (congrArg (World.drewN _) (Nat.add_assoc _ _ _))⟩)) | (go_at_call 24; (with_reducible refine (code_reg.calls pa a (regB pa a) _ RA.out).mono ?_); rintro e w' ⟨rfl, ⟨nd, rfl⟩⟩; (try first | exact ⟨rfl, _, World.drewN_drewN _ _ _⟩ | exact ⟨rfl, _, Eq.trans (World.drewN_drewN _ _ _) (congrArg (World.drewN _) (Nat.add_assoc _ _ _))⟩)) | (go_at_call 24; (with_reducible refine (code_reg.calls pb b (regB pb b) _ RB.out).mono ?_); rintro e w' ⟨rfl, ⟨nd, rfl⟩⟩; (try first | exact ⟨rfl, _, World.drewN_drewN _ _ _⟩ | exact ⟨rfl, _, Eq.trans (World.drewN_drewN _ _ _) (congrArg (World.drewN _) (Nat.add_assoc _ _ _))⟩)))
                  go_meet
                  case rel => exact ⟨by obtain ⟨h1, h2, h3, h4⟩ := HP.out; simp [bad1, ← h1, ← h2, ← h3, ← h4, e1, e2, hd, ha, hb, e3], BKgb, ⟨by repeat (first | (with_reducible first | exact HB.out | apply below_alloc | apply pw_below_drewN | apply below_drew1) | exact HB.out)⟩⟩
                ·
                  go_wp2_with (first | (go_at_call 24; (with_reducible refine (code_reg.calls pd d (regB pd d) _ RD.out).mono ?_); rintro e w' ⟨rfl, ⟨nd, rfl⟩⟩; (try first | exact ⟨rfl, _, World.drewN_drewN _ _ _⟩ | exact ⟨rfl, _, Eq.trans (World.drewN_drewN _ _ _) (congrArg (World.drewN _) (Nat.add_assoc _ _ _))⟩)) | (go_at_call 24; (with_reducible refine (code_reg.calls pa a (regB pa a) _ RA.out).mono ?_); rintro e w' ⟨rfl, ⟨nd, rfl⟩⟩; (try first | exact ⟨rfl, _, World.drewN_drewN _ _ _⟩ | exact ⟨rfl, _, Eq.trans (World.drewN_drewN _ _ _) (congrArg (World.drewN _) (Nat.add_assoc _ _ _))⟩)) | (go_at_call 24; (with_reducible refine (code_reg.calls pb b (regB pb b) _ RB.out).mono ?_); rintro e w' ⟨rfl, ⟨nd, rfl⟩⟩; (try first | exact ⟨rfl, _, World.drewN_drewN _ _ _⟩ | exact ⟨rfl, _, Eq.trans (World.drewN_drewN _ _ _) (congrArg (World.drewN _) (Nat.add_assoc _ _ _))⟩)))
                  go_meet
                  case rel => exact ⟨by obtain ⟨h1, h2, h3, h4⟩ := HP.out; simp [bad1, ← h1, ← h2, ← h3, ← h4, e1, e2, hd, ha, hb, e3], BKgb, ⟨by repeat (first | (with_reducible first | exact HB.out | apply below_alloc | apply pw_below_drewN | apply below_drew1) | exact HB.out)⟩⟩
              ·
                go_wp2_with (first | (go_at_call 24; (with_reducible refine (code_reg.calls pd d (regB pd d) _ RD.out).mono ?_); rintro e w' ⟨rfl, ⟨nd, rfl⟩⟩; (try first | exact ⟨rfl, _, World.drewN_drewN _ _ _⟩ | exact ⟨rfl, _, Eq.trans (World.drewN_drewN _ _ _) (congrArg (World.drewN _) (Nat.add_assoc _ _ _))⟩)) | (go_at_call 24; (with_reducible refine (code_reg.calls pa a (regB pa a) _ RA.out).mono ?_); rintro e w' ⟨rfl, ⟨nd, rfl⟩⟩; (try first | exact ⟨rfl, _, World.drewN_drewN _ _ _⟩ | exact ⟨rfl, _, Eq.trans (World.drewN_drewN _ _ _) (congrArg (World.drewN _) (Nat.add_assoc _ _ _))⟩)) | (go_at_call 24; (with_reducible refine (code_reg.calls pb b (regB pb b) _ RB.out).mono ?_); rintro e w' ⟨rfl, ⟨nd, rfl⟩⟩; (try first | exact ⟨rfl, _, World.drewN_drewN _ _ _⟩ | exact ⟨rfl, _, Eq.trans (World.drewN_drewN _ _ _) (congrArg (World.drewN _) (Nat.add_assoc _ _ _))⟩)))
                go_meet
                case rel => exact ⟨by obtain ⟨h1, h2, h3, h4⟩ := HP.out; simp [bad1, ← h1, ← h2, ← h3, ← h4, e1, e2, hd, ha, hb], BKgb, ⟨by repeat (first | (with_reducible first | exact HB.out | apply below_alloc | apply pw_below_drewN | apply below_drew1) | exact HB.out)⟩⟩
            ·
              go_wp2_with (first | (go_at_call 24; (with_reducible refine (code_reg.calls pd d (regB pd d) _ RD.out).mono ?_); rintro e w' ⟨rfl, ⟨nd, rfl⟩⟩; (try first | exact ⟨rfl, _, World.drewN_drewN _ _ _⟩ | exact ⟨rfl, _, Eq.trans (World.drewN_drewN _ _ _) (congrArg (World.drewN _) (Nat.add_assoc _ _ _))⟩)) | (go_at_call 24; (with_reducible refine (code_reg.calls pa a (regB pa a) _ RA.out).mono ?_); rintro e w' ⟨rfl, ⟨nd, rfl⟩⟩; (try first | exact ⟨rfl, _, World.drewN_drewN _ _ _⟩ | exact ⟨rfl, _, Eq.trans (World.drewN_drewN _ _ _) (congrArg (World.drewN _) (Nat.add_assoc _ _ _))⟩)) | (go_at_call 24; (with_reducible refine (code_reg.calls pb b (regB pb b) _ RB.out).mono ?_); rintro e w' ⟨rfl, ⟨nd, rfl⟩⟩; (try first | exact ⟨rfl, _, World.drewN_drewN _ _ _⟩ | exact ⟨rfl, _, Eq.trans (World.drewN_drewN _ _ _) (congrArg (World.drewN _) (Nat.add_assoc _ _ _))⟩)))
              go_meet
              case rel => exact ⟨by obtain ⟨h1, h2, h3, h4⟩ := HP.out; simp [bad1, ← h1, ← h2, ← h3, ← h4, e1, e2, hd, ha, hb], BKgb, ⟨by repeat (first | (with_reducible first | exact HB.out | apply below_alloc | apply pw_below_drewN | apply below_drew1) | exact HB.out)⟩⟩
          ·
            go_wp2_with (first | (go_at_call 24; (with_reducible refine (code_reg.calls pd d (regB pd d) _ RD.out).mono ?_); rintro e w' ⟨rfl, ⟨nd, rfl⟩⟩; (try first | exact ⟨rfl, _, World.drewN_drewN _ _ _⟩ | exact ⟨rfl, _, Eq.trans (World.drewN_drewN _ _ _) (congrArg (World.drewN _) (Nat.add_assoc _ _ _))⟩)) | (go_at_call 24; (with_reducible refine (code_reg.calls pa a (regB pa a) _ RA.out).mono ?_); rintro e w' ⟨rfl, ⟨nd, rfl⟩⟩; (try first | exact ⟨rfl, _, World.drewN_drewN _ _ _⟩ | exact ⟨rfl, _, Eq.trans (World.drewN_drewN _ _ _) (congrArg (World.drewN _) (Nat.add_assoc _ _ _))⟩)) | (go_at_call 24; (with_reducible refine (code_reg.calls pb b (regB pb b) _ RB.out).mono ?_); rintro e w' ⟨rfl, ⟨nd, rfl⟩⟩; (try first | exact ⟨rfl, _, World.drewN_drewN _ _ _⟩ | exact ⟨rfl, _, Eq.trans (World.drewN_drewN _ _ _) (congrArg (World.drewN _) (Nat.add_assoc _ _ _))⟩)))
            go_meet
            case rel => exact ⟨by obtain ⟨h1, h2, h3, h4⟩ := HP.out; simp [bad1, ← h1, ← h2, ← h3, ← h4, e1, e2, hd, ha], BKgb, ⟨by repeat (first | (with_reducible first | exact HB.out | apply below_alloc | apply pw_below_drewN | apply below_drew1) | exact HB.out)⟩⟩
        ·
          go_wp2_with (first | (go_at_call 24; (with_reducible refine (code_reg.calls pd d (regB pd d) _ RD.out).mono ?_); rintro e w' ⟨rfl, ⟨nd, rfl⟩⟩; (try first | exact ⟨rfl, _, World.drewN_drewN _ _ _⟩ | exact ⟨rfl, _, Eq.trans (World.drewN_drewN _ _ _) (congrArg (World.drewN _) (Nat.add_assoc _ _ _))⟩)) | (go_at_call 24; (with_reducible refine (code_reg.calls pa a (regB pa a) _ RA.out).mono ?_); rintro e w' ⟨rfl, ⟨nd, rfl⟩⟩; (try first | exact ⟨rfl, _, World.drewN_drewN _ _ _⟩ | exact ⟨rfl, _, Eq.trans (World.drewN_drewN _ _ _) (congrArg (World.drewN _) (Nat.add_assoc _ _ _))⟩)) | (go_at_call 24; (with_reducible refine (code_reg.calls pb b (regB pb b) _ RB.out).mono ?_); rintro e w' ⟨rfl, ⟨nd, rfl⟩⟩; (try first | exact ⟨rfl, _, World.drewN_drewN _ _ _⟩ | exact ⟨rfl, _, Eq.trans (World.drewN_drewN _ _ _) (congrArg (World.drewN _) (Nat.add_assoc _ _ _))⟩)))
          go_meet
          case rel => exact ⟨by obtain ⟨h1, h2, h3, h4⟩ := HP.out; simp [bad1, ← h1, ← h2, ← h3, ← h4, e1, e2, hd], BKgb, ⟨by repeat (first | (with_reducible first | exact HB.out | apply below_alloc | apply pw_below_drewN | apply below_drew1) | exact HB.out)⟩⟩
  case rest =>
    obtain ⟨rfl, BKgb, HB⟩ := hcut
    rcases Bool.eq_false_or_eq_true (bad1 op d a b imm) with b1 | b1
    · rw [b1]
      have B0 := Aside0.mk b1
      clear b1
      go_wp2
      go_ret
      exact ⟨by simp [rightB, B0.out], by repeat (first | (with_reducible first | exact HB.out | apply below_alloc | apply pw_below_drewN | apply below_drew1) | exact HB.out)⟩
    rw [b1]
    have B1 := Aside0.mk b1
    clear b1
    go_upto_region 4 with (fail)
    go_cut [54] (fun v54 wc => v54 = .bool (bad2 op bin) ∧ Aside0 (wc.heap[gb]? = some (.cells #[.int .i64 op, .int .i64 d, .int .i64 a, .int .i64 b, .int .i64 bin, .int .i64 imm] 56 (0, 0))) ∧ Aside0 (Below w.heap.size w wc))
    case first =>
      have KB := Aside0.mk (known_f bin)
      have hczgb_0 : wc.cell? ⟨gb, 0, none⟩ = some (.int .i64 op) := (blk_cell BKgb.out 0).trans rfl; have hfzgb_0 := blk_frozen BKgb.out 0; have hczgb_1 : wc.cell? ⟨gb, 1, none⟩ = some (.int .i64 d) := (blk_cell BKgb.out 1).trans rfl; have hfzgb_1 := blk_frozen BKgb.out 1; have hczgb_2 : wc.cell? ⟨gb, 2, none⟩ = some (.int .i64 a) := (blk_cell BKgb.out 2).trans rfl; have hfzgb_2 := blk_frozen BKgb.out 2; have hczgb_3 : wc.cell? ⟨gb, 3, none⟩ = some (.int .i64 b) := (blk_cell BKgb.out 3).trans rfl; have hfzgb_3 := blk_frozen BKgb.out 3; have hczgb_4 : wc.cell? ⟨gb, 4, none⟩ = some (.int .i64 bin) := (blk_cell BKgb.out 4).trans rfl; have hfzgb_4 := blk_frozen BKgb.out 4; have hczgb_5 : wc.cell? ⟨gb, 5, none⟩ = some (.int .i64 imm) := (blk_cell BKgb.out 5).trans rfl; have hfzgb_5 := blk_frozen BKgb.out 5
      rcases Bool.eq_false_or_eq_true (op == 3) with e3 | e3 <;> rcases Bool.eq_false_or_eq_true (knownB bin) with kb | kb
      · have e4 : (op != 3) = false := by simpa using e3
        go_quiet (first | (go_at_call 25; (with_reducible refine (word_Op_Known.calls bin (knownB bin) _ KB.out).mono ?_); rintro e w' ⟨rfl, ⟨nd, rfl⟩⟩; (try first | exact ⟨rfl, _, World.drewN_drewN _ _ _⟩ | exact ⟨rfl, _, Eq.trans (World.drewN_drewN _ _ _) (congrArg (World.drewN _) (Nat.add_assoc _ _ _))⟩)))
        go_wp2_with fail
        go_meet
        case rel => exact ⟨by simp [bad2, e3, kb, e4], BKgb, ⟨by repeat (first | (with_reducible first | exact HB.out | apply below_alloc | apply pw_below_drewN | apply below_drew1) | exact HB.out)⟩⟩
      · have e4 : (op != 3) = false := by simpa using e3
        go_quiet (first | (go_at_call 25; (with_reducible refine (word_Op_Known.calls bin (knownB bin) _ KB.out).mono ?_); rintro e w' ⟨rfl, ⟨nd, rfl⟩⟩; (try first | exact ⟨rfl, _, World.drewN_drewN _ _ _⟩ | exact ⟨rfl, _, Eq.trans (World.drewN_drewN _ _ _) (congrArg (World.drewN _) (Nat.add_assoc _ _ _))⟩)))
        go_wp2_with fail
        go_meet
        case rel => exact ⟨by simp [bad2, e3, kb, e4], BKgb, ⟨by repeat (first | (with_reducible first | exact HB.out | apply below_alloc | apply pw_below_drewN | apply below_drew1) | exact HB.out)⟩⟩
      · have e4 : (op != 3) = true := by simpa using e3
        go_quiet (first | (go_at_call 25; (with_reducible refine (word_Op_Known.calls bin (knownB bin) _ KB.out).mono ?_); rintro e w' ⟨rfl, ⟨nd, rfl⟩⟩; (try first | exact ⟨rfl, _, World.drewN_drewN _ _ _⟩ | exact ⟨rfl, _, Eq.trans (World.drewN_drewN _ _ _) (congrArg (World.drewN _) (Nat.add_assoc _ _ _))⟩)))
        go_wp2_with fail
        go_meet
        case rel => exact ⟨by simp [bad2, e3, kb, e4], BKgb, ⟨by repeat (first | (with_reducible first | exact HB.out | apply below_alloc | apply pw_below_drewN | apply below_drew1) | exact HB.out)⟩⟩
      · have e4 : (op != 3) = true := by simpa using e3
        rcases Bool.eq_false_or_eq_true (bin != 0) with e5 | e5
        · go_quiet (first | (go_at_call 25; (with_reducible refine (word_Op_Known.calls bin (knownB bin) _ KB.out).mono ?_); rintro e w' ⟨rfl, ⟨nd, rfl⟩⟩; (try first | exact ⟨rfl, _, World.drewN_drewN _ _ _⟩ | exact ⟨rfl, _, Eq.trans (World.drewN_drewN _ _ _) (congrArg (World.drewN _) (Nat.add_assoc _ _ _))⟩)))
          go_wp2_with fail
          go_meet
          case rel => exact ⟨by simp [bad2, e3, kb, e4, e5], BKgb, ⟨by repeat (first | (with_reducible first | exact HB.out | apply below_alloc | apply pw_below_drewN | apply below_drew1) | exact HB.out)⟩⟩
        · go_quiet (first | (go_at_call 25; (with_reducible refine (word_Op_Known.calls bin (knownB bin) _ KB.out).mono ?_); rintro e w' ⟨rfl, ⟨nd, rfl⟩⟩; (try first | exact ⟨rfl, _, World.drewN_drewN _ _ _⟩ | exact ⟨rfl, _, Eq.trans (World.drewN_drewN _ _ _) (congrArg (World.drewN _) (Nat.add_assoc _ _ _))⟩)))
          go_wp2_with fail
          go_meet
          case rel => exact ⟨by simp [bad2, e3, kb, e4, e5], BKgb, ⟨by repeat (first | (with_reducible first | exact HB.out | apply below_alloc | apply pw_below_drewN | apply below_drew1) | exact HB.out)⟩⟩
    case rest =>
      obtain ⟨rfl, BKgb, HB⟩ := hcut
      rcases Bool.eq_false_or_eq_true (bad2 op bin) with b2 | b2
      · rw [b2]
        have B0 := Aside0.mk b2
        clear b2
        go_wp2
        go_ret
        exact ⟨by simp [rightB, B0.out], by repeat (first | (with_reducible first | exact HB.out | apply below_alloc | apply pw_below_drewN | apply below_drew1) | exact HB.out)⟩
      rw [b2]
      have B2 := Aside0.mk b2
      clear b2
      go_upto_region 6 with (fail)
      go_cut [72] (fun v72 wc => v72 = .bool (bad3 op imm) ∧ Aside0 (wc.heap[gb]? = some (.cells #[.int .i64 op, .int .i64 d, .int .i64 a, .int .i64 b, .int .i64 bin, .int .i64 imm] 56 (0, 0))) ∧ Aside0 (Below w.heap.size w wc))
      case first =>
        have hczgb_0 : wc.cell? ⟨gb, 0, none⟩ = some (.int .i64 op) := (blk_cell BKgb.out 0).trans rfl; have hfzgb_0 := blk_frozen BKgb.out 0; have hczgb_1 : wc.cell? ⟨gb, 1, none⟩ = some (.int .i64 d) := (blk_cell BKgb.out 1).trans rfl; have hfzgb_1 := blk_frozen BKgb.out 1; have hczgb_2 : wc.cell? ⟨gb, 2, none⟩ = some (.int .i64 a) := (blk_cell BKgb.out 2).trans rfl; have hfzgb_2 := blk_frozen BKgb.out 2; have hczgb_3 : wc.cell? ⟨gb, 3, none⟩ = some (.int .i64 b) := (blk_cell BKgb.out 3).trans rfl; have hfzgb_3 := blk_frozen BKgb.out 3; have hczgb_4 : wc.cell? ⟨gb, 4, none⟩ = some (.int .i64 bin) := (blk_cell BKgb.out 4).trans rfl; have hfzgb_4 := blk_frozen BKgb.out 4; have hczgb_5 : wc.cell? ⟨gb, 5, none⟩ = some (.int .i64 imm) := (blk_cell BKgb.out 5).trans rfl; have hfzgb_5 := blk_frozen BKgb.out 5
        rcases Bool.eq_false_or_eq_true (op == 6) with e6 | e6
        · rcases Bool.eq_false_or_eq_true (decide (imm < 0)) with e9 | e9
          · go_wp2_with fail
            go_meet
            case rel => exact ⟨by simp [bad3, e6, e9], BKgb, ⟨by repeat (first | (with_reducible first | exact HB.out | apply below_alloc | apply pw_below_drewN | apply below_drew1) | exact HB.out)⟩⟩
          · go_wp2_with fail
            go_meet
            case rel => exact ⟨by simp [bad3, e6, e9], BKgb, ⟨by repeat (first | (with_reducible first | exact HB.out | apply below_alloc | apply pw_below_drewN | apply below_drew1) | exact HB.out)⟩⟩
        · rcases Bool.eq_false_or_eq_true (op == 7) with e7 | e7
          · rcases Bool.eq_false_or_eq_true (decide (imm < 0)) with e9 | e9
            · go_wp2_with fail
              go_meet
              case rel => exact ⟨by simp [bad3, e6, e7, e9], BKgb, ⟨by repeat (first | (with_reducible first | exact HB.out | apply below_alloc | apply pw_below_drewN | apply below_drew1) | exact HB.out)⟩⟩
            · go_wp2_with fail
              go_meet
              case rel => exact ⟨by simp [bad3, e6, e7, e9], BKgb, ⟨by repeat (first | (with_reducible first | exact HB.out | apply below_alloc | apply pw_below_drewN | apply below_drew1) | exact HB.out)⟩⟩
          · rcases Bool.eq_false_or_eq_true (op == 8) with e8 | e8
            · rcases Bool.eq_false_or_eq_true (decide (imm < 0)) with e9 | e9
              · go_wp2_with fail
                go_meet
                case rel => exact ⟨by simp [bad3, e6, e7, e8, e9], BKgb, ⟨by repeat (first | (with_reducible first | exact HB.out | apply below_alloc | apply pw_below_drewN | apply below_drew1) | exact HB.out)⟩⟩
              · go_wp2_with fail
                go_meet
                case rel => exact ⟨by simp [bad3, e6, e7, e8, e9], BKgb, ⟨by repeat (first | (with_reducible first | exact HB.out | apply below_alloc | apply pw_below_drewN | apply below_drew1) | exact HB.out)⟩⟩
            · go_wp2_with fail
              go_meet
              case rel => exact ⟨by simp [bad3, e6, e7, e8], BKgb, ⟨by repeat (first | (with_reducible first | exact HB.out | apply below_alloc | apply pw_below_drewN | apply below_drew1) | exact HB.out)⟩⟩
      case rest =>
        obtain ⟨rfl, BKgb, HB⟩ := hcut
        rcases Bool.eq_false_or_eq_true (bad3 op imm) with b3 | b3
        · rw [b3]
          have B0 := Aside0.mk b3
          clear b3
          go_wp2
          go_ret
          exact ⟨by simp [rightB, B0.out], by repeat (first | (with_reducible first | exact HB.out | apply below_alloc | apply pw_below_drewN | apply below_drew1) | exact HB.out)⟩
        rw [b3]
        have B3 := Aside0.mk b3
        clear b3
        have hczgb_0 : wc.cell? ⟨gb, 0, none⟩ = some (.int .i64 op) := (blk_cell BKgb.out 0).trans rfl; have hfzgb_0 := blk_frozen BKgb.out 0; have hczgb_1 : wc.cell? ⟨gb, 1, none⟩ = some (.int .i64 d) := (blk_cell BKgb.out 1).trans rfl; have hfzgb_1 := blk_frozen BKgb.out 1; have hczgb_2 : wc.cell? ⟨gb, 2, none⟩ = some (.int .i64 a) := (blk_cell BKgb.out 2).trans rfl; have hfzgb_2 := blk_frozen BKgb.out 2; have hczgb_3 : wc.cell? ⟨gb, 3, none⟩ = some (.int .i64 b) := (blk_cell BKgb.out 3).trans rfl; have hfzgb_3 := blk_frozen BKgb.out 3; have hczgb_4 : wc.cell? ⟨gb, 4, none⟩ = some (.int .i64 bin) := (blk_cell BKgb.out 4).trans rfl; have hfzgb_4 := blk_frozen BKgb.out 4; have hczgb_5 : wc.cell? ⟨gb, 5, none⟩ = some (.int .i64 imm) := (blk_cell BKgb.out 5).trans rfl; have hfzgb_5 := blk_frozen BKgb.out 5
        rcases Bool.eq_false_or_eq_true (op == 12) with e6 | e6
        · rcases Bool.eq_false_or_eq_true (decide (imm < 1)) with e9 | e9
          · go_wp2
            go_ret
            exact ⟨by simp [rightB, B1.out, B2.out, B3.out, bad4, e6, e9], by repeat (first | (with_reducible first | exact HB.out | apply below_alloc | apply pw_below_drewN | apply below_drew1) | exact HB.out)⟩
          · rcases Bool.eq_false_or_eq_true (decide (3 < imm)) with e8 | e8
            · go_wp2
              go_ret
              exact ⟨by simp [rightB, B1.out, B2.out, B3.out, bad4, e6, e9, e8], by repeat (first | (with_reducible first | exact HB.out | apply below_alloc | apply pw_below_drewN | apply below_drew1) | exact HB.out)⟩
            · go_wp2
              go_ret
              exact ⟨by simp [rightB, B1.out, B2.out, B3.out, bad4, e6, e9, e8], by repeat (first | (with_reducible first | exact HB.out | apply below_alloc | apply pw_below_drewN | apply below_drew1) | exact HB.out)⟩
        · go_wp2
          go_ret
          exact ⟨by simp [rightB, B1.out, B2.out, B3.out, bad4, e6], by repeat (first | (with_reducible first | exact HB.out | apply below_alloc | apply pw_below_drewN | apply below_drew1) | exact HB.out)⟩

/-- In the form in which the printed functions ask for it. -/
def code_Ins_Right.f (k : Nat) (a0_0 : Int) (a0_1 : Int) (a0_2 : Int) (a0_3 : Int) (a0_4 : Int) (a0_5 : Int) : Option (Bool) := some (rightB a0_0 a0_1 a0_2 a0_3 a0_4 a0_5)
theorem code_Ins_Right.mono : ∀ a0 a1 a2 a3 a4 a5 k, LeO (code_Ins_Right.f k a0 a1 a2 a3 a4 a5) (code_Ins_Right.f (k + 1) a0 a1 a2 a3 a4 a5) := fun _ _ _ _ _ _ _ => LeO.refl _
theorem code_Ins_Right.calls (k : Nat) (a0_0 : Int) (a0_1 : Int) (a0_2 : Int) (a0_3 : Int) (a0_4 : Int) (a0_5 : Int) (r : Bool) (w : World) (h : code_Ins_Right.f k a0_0 a0_1 a0_2 a0_3 a0_4 a0_5 = some r) :
    Calls Try.prog 15 #[.agg #[.int .i64 a0_0, .int .i64 a0_1, .int .i64 a0_2, .int .i64 a0_3, .int .i64 a0_4, .int .i64 a0_5]] w fun e w' => e = .returned (.bool r) ∧ Below w.heap.size w w' := by
  obtain rfl := Option.some.inj h
  exact right_calls _ _ _ _ _ _ w
end Go.Proofs.Ytkgoljbimblkhaa.B
