/- (*reader).num reads a number of four bytes, the lowest ahead, and goes on behind it. -/
import Derived.Test.YteabbcnoamhofaaBx2
import Derived.Test.YteabbcnoamhofaaOpen
import Derived.Deep.QuietTactic
namespace Go.Proofs.Yteabbcnoamhofaa.B
open Go.RowKit Go.Proofs.Yteabbcnoamhofaa.Mine Go.Proofs.YteabbcnoamhofaaW.PrintWords Go.Proofs.YteabbcnoamhofaaW.PrintLast Go.Proofs.YteabbcnoamhofaaW.PrintMore
set_option linter.unusedVariables false
set_option linter.unusedSimpArgs false

/-- Only this block's cells were turned, and orders drawn. -/
inductive Sets (g : Nat) (w : World) : World → Prop
  | refl : Sets g w w
  | drew {v : World} (n : Nat) (h : Sets g w v) : Sets g w (v.drewN n)
  | set {v : World} (o : Nat) (x : Value) (h : Sets g w v) : Sets g w (v.setCell ⟨g, o, none⟩ x)
theorem Sets.bel {g : Nat} {w v w0 : World} (h : Sets g w v) (hB : Below w0.heap.size w0 w) (hg : w0.heap.size ≤ g) : Below w0.heap.size w0 v := by
  induction h with
  | refl => exact hB
  | drew n h ih => exact pw_below_drewN ih _
  | set o x h ih => exact below_set ih hg
theorem Sets.blk {g g' : Nat} {w v : World} {cs : Array Value} {t : TypeId} (h : Sets g w v) (hne : g' ≠ g) (hb : w.heap[g']? = some (.cells cs t)) : v.heap[g']? = some (.cells cs t) := by
  induction h with
  | refl => exact hb
  | drew n h ih => exact blk_drewN ih _
  | set o x h ih => exact blk_far ih (show g' ≠ (⟨g, o, none⟩ : Addr).block from hne) _
theorem Sets.R {g : Nat} {w v : World} {α : Type} {d : Kd α} {e : Nat} {base : Nat} {ok : Nat → Prop} {u : Value} {xs : List α} (h : Sets g w v) (hok : ∀ k, ok k → k ≠ g) (hR : d.R e w base ok u xs) : d.R e v base ok u xs := by
  induction h with
  | refl => exact hR
  | drew n h ih => exact Kd.R_drewN ih _
  | set o x h ih => exact Kd.R_far ih hok _

abbrev num4 (xs : List Int) : Int := Go.bits .or .i64 (Go.bits .or .i64 (Go.bits .or .i64 (wrap64 (rd xs 0)) (wrap64 (wrap64 (rd xs 1) * 256))) (wrap64 (wrap64 (rd xs 2) * 65536))) (wrap64 (wrap64 (rd xs 3) * 16777216))
def numOf (xs : List Int) (xb : Bool) (M : Int) : Int × List Int × Bool :=
  if xb = true then (0, xs, true) else if (xs.length : Int) < 4 then (0, xs, true) else if num4 xs > M then (0, xs.drop 4, true) else (num4 xs, xs.drop 4, false)
/-- The reader's block: what is left, and whether it is bad. -/
def IsRd (w W : World) (g : Nat) (xs : List Int) (xb : Bool) : Prop := ∃ A c, W.heap[g]? = some (.cells #[.slice A xs.length c, .bool xb] 53 (0, 0)) ∧ Kd.C (Kd.int .u8) w A xs.length xs ∧ xs.length ≤ c
theorem num_calls (w W : World) (g : Nat) (A : Option Addr) (c : Nat) (xs : List Int) (xb : Bool) (M : Int) (hblk : W.heap[g]? = some (.cells #[.slice A xs.length c, .bool xb] 53 (0, 0))) (hC : Kd.C (Kd.int .u8) w A xs.length xs) (hc : xs.length ≤ c) (hB : Below w.heap.size w W) (hg : w.heap.size ≤ g) :
    Calls Try.prog 19 #[.pointer (some ⟨g, 0, none⟩), .int .i64 M] W fun e W' => e = .returned (.int .i64 (numOf xs xb M).1) ∧ Sets g W W' ∧ IsRd w W' g (numOf xs xb M).2.1 (numOf xs xb M).2.2 := by
  have hu53 := Try.underlying53
  have hcz0 : W.cell? ⟨g, 0, none⟩ = some (.slice A xs.length c) := (blk_cell hblk 0).trans rfl
  have hcz1 : W.cell? ⟨g, 1, none⟩ = some (.bool xb) := (blk_cell hblk 1).trans rfl
  have hfz0 := blk_frozen hblk 0
  have hfz1 := blk_frozen hblk 1
  cases xb with
  | true =>
    go_enter Try.func19, Try.ntmps19
    go_wp2
    go_ret
    exact ⟨rfl, .set 1 _ .refl, A, c, blk_put (cs := #[.slice A xs.length c, .bool true]) hblk 1 _ rfl, hC, hc⟩
  | false =>
    by_cases h4 : (xs.length : Int) < 4
    · have h4b : decide ((xs.length : Int) < 4) = true := decide_eq_true h4
      have hn : numOf xs false M = (0, xs, true) := by unfold numOf; rw [if_neg (by decide), if_pos h4]
      rw [hn]
      go_enter Try.func19, Try.ntmps19
      go_wp2
      go_ret
      exact ⟨rfl, .set 1 _ .refl, A, c, blk_put (cs := #[.slice A xs.length c, .bool false]) hblk 1 _ rfl, hC, hc⟩
    · have h4b : decide ((xs.length : Int) < 4) = false := decide_eq_false h4
      have hn : numOf xs false M = if num4 xs > M then (0, xs.drop 4, true) else (num4 xs, xs.drop 4, false) := by unfold numOf; rw [if_neg (by decide), if_neg h4]
      obtain ⟨i0, hi0, _, hsz, _⟩ := info_parts info5
      obtain ⟨A', hcut, hA, hC'⟩ := print_drop_of (P := Try.prog) (Value.int .u8) 0 41 5 .i64 Try.underlying41 hi0 hsz A c xs 4 (by omega) (by omega) hc
      have hCd : Kd.C (Kd.int .u8) w A' (xs.drop 4).length (xs.drop 4) := Kd.C_of_reads (h1 := fun _ => rfl) (hA _ (Kd.reads_of_C hC))
      obtain ⟨ad, e, hx0⟩ := Kd.at_int hC 0 (by omega) (by omega)
      obtain ⟨ad1, e1, hx1⟩ := Kd.at_int hC 1 (by omega) (by omega)
      obtain ⟨ad2, e2, hx2⟩ := Kd.at_int hC 2 (by omega) (by omega)
      obtain ⟨ad3, e3, hx3⟩ := Kd.at_int hC 3 (by omega) (by omega)
      subst e
      cases e1
      cases e2
      cases e3
      have hw0 := hx0
      rw [show ((0 : Int)).toNat = 0 from rfl, Addr.add_zero'] at hw0
      simp only [show (1 : Int).toNat = 1 from rfl, Nat.reduceMul, Nat.reduceEqDiff, Go.Addr.add, ↓reduceIte] at hx1
      simp only [show (2 : Int).toNat = 2 from rfl, Nat.reduceMul, Nat.reduceEqDiff, Go.Addr.add, ↓reduceIte] at hx2
      simp only [show (3 : Int).toNat = 3 from rfl, Nat.reduceMul, Nat.reduceEqDiff, Go.Addr.add, ↓reduceIte] at hx3
      replace hx0 := (hB.cell (World.block_lt_of_cell? w _ hx0)).trans hx0
      replace hx1 := (hB.cell (World.block_lt_of_cell? w _ hx1)).trans hx1
      replace hx2 := (hB.cell (World.block_lt_of_cell? w _ hx2)).trans hx2
      replace hx3 := (hB.cell (World.block_lt_of_cell? w _ hx3)).trans hx3
      replace hw0 := (hB.cell (World.block_lt_of_cell? w _ hw0)).trans hw0
      have q0 : (0 < xs.length) = True := eq_true (by omega)
      have r0 : ((0 : Int) < (xs.length : Int)) = True := eq_true (by omega)
      have q1 : (1 < xs.length) = True := eq_true (by omega)
      have r1 : ((1 : Int) < (xs.length : Int)) = True := eq_true (by omega)
      have q2 : (2 < xs.length) = True := eq_true (by omega)
      have r2 : ((2 : Int) < (xs.length : Int)) = True := eq_true (by omega)
      have q3 : (3 < xs.length) = True := eq_true (by omega)
      have r3 : ((3 : Int) < (xs.length : Int)) = True := eq_true (by omega)
      go_enter Try.func19, Try.ntmps19
      go_wp2
      go_quiet (fail)
      go_wp2
      · rename_i hM
        have hq : numOf xs false M = (0, xs.drop 4, true) := by rw [hn, if_pos (show num4 xs > M from hM)]
        rw [hq]
        go_ret
        exact ⟨rfl, .set 1 _ (.set 0 _ (.drew _ .refl)), A', c - 4, blk_put (cs := #[.slice A' (xs.length - 4) (c - 4), .bool false]) (blk_put (cs := #[.slice (some ad) xs.length c, .bool false]) (blk_drewN hblk _) 0 _ rfl) 1 _ (by rw [List.length_drop]; rfl), hCd, hC'⟩
      · rename_i hM
        have hq : numOf xs false M = (num4 xs, xs.drop 4, false) := by rw [hn, if_neg (show ¬ (num4 xs > M) from Int.not_lt.mpr hM)]
        rw [hq]
        go_ret
        exact ⟨rfl, .set 0 _ (.drew _ .refl), A', c - 4, blk_put (cs := #[.slice (some ad) xs.length c, .bool false]) (blk_drewN hblk _) 0 _ (by rw [List.length_drop]; rfl), hCd, hC'⟩
end Go.Proofs.Yteabbcnoamhofaa.B
