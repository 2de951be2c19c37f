/- Words of memory: the machine's memory of words alone. -/
import Derived.Test.YtkgoljbimblkhaaMachStep
namespace Go.Proofs.Ytkgoljbimblkhaa.B
open Go.RowKit Go.Proofs.Ytkgoljbimblkhaa.Mine Go.Proofs.Ytkgoljbimblkhaa.Sep Go.Proofs.YtkgoljbimblkhaaW.PrintWords Go.Proofs.YtkgoljbimblkhaaW.PrintLast Go.Proofs.YtkgoljbimblkhaaW.PrintMore
set_option linter.unusedVariables false
set_option linter.unusedSimpArgs false

def wRd (m : List Int) (a : Int) : Int × Bool := if 0 ≤ a ∧ a < (m.length : Int) then (rd m a, true) else (0, false)
def wWr (m : List Int) (a v : Int) : List Int × Bool := if 0 ≤ a ∧ a < (m.length : Int) then (m.set a.toNat v, true) else (m, false)
def wF : MF (List Int) := ⟨wRd, wWr⟩
def IW : Kd Int := Kd.int .i64
theorem row_len {W0 w : World} {L : List Chunk} {A : Option Addr} {n c : Nat} {m : List Int} (HS : Sat W0 w L) (i : Nat) (hi : L[i]? = some (row IW 2 (.slice A n c) m)) : n = m.length ∧ m.length ≤ c := HS.cap i hi
theorem row_own {W0 w : World} {L : List Chunk} {A : Option Addr} {n c : Nat} {m : List Int} (HS : Sat W0 w L) (i : Nat) (hi : L[i]? = some (row IW 2 (.slice A n c) m)) : w.ownsRow 0 2 1 (.slice A n c) n (nums .i64 m) := by
  obtain ⟨s, h⟩ := HS.row i hi
  have h2 := Kd.own_of_R (enc := Value.int .i64) (h1 := fun _ => rfl) h
  rw [(HS.cap i hi).1]
  have e := (HS.cap i hi).1
  subst e
  exact h2
/-- A word of an own row: read, and written. -/
theorem Sat.word {W0 w : World} {L : List Chunk} {A : Option Addr} {n c : Nat} {m : List Int} (HS : Sat W0 w L) (i : Nat) (hi : L[i]? = some (row IW 2 (.slice A n c) m)) (a : Int) (h0 : 0 ≤ a) (h1 : a < (m.length : Int)) :
    ∃ g, A = some ⟨g, 0, none⟩ ∧ w.cell? ⟨g, a.toNat, none⟩ = some (.int .i64 (rd m a)) ∧ w.frozen? ⟨g, a.toNat, none⟩ = false ∧ ∀ v, Sat W0 (w.setCell ⟨g, a.toNat, none⟩ (.int .i64 v)) (L.set i (row IW 2 (.slice A n c) (m.set a.toNat v))) := by
  obtain ⟨e, hc⟩ := HS.cap i hi
  subst e
  have ho := row_own HS i hi
  obtain ⟨g, cap, he, hg, hcell⟩ := ho.form (by omega)
  injection he with he1 he2 he3
  subst he1
  obtain ⟨h2, h3⟩ := own_at ho a h0 (by omega)
  refine ⟨g, rfl, h2, h3, fun v => HS.upd i hi fun s h => ⟨⟨rfl, rfl, rfl, by simp [World.setCell], fun k _ hs => Below.heap_setCell w ⟨g, a.toNat, none⟩ _ k (fun e => hs (by rw [show k = g from e]; exact h.1 g (by simp [Value.ownBlock])))⟩, ?_⟩⟩
  have h4 := (own_store ho a v).1
  have h5 := Kd.R_of_own (enc := Value.int .i64) (h1 := fun _ => rfl) (ok := s) (xs := m.set a.toNat v) (by rw [List.length_set]; exact h4) h.1
  exact Kd.R_mono h5 (fun k hk => .inl hk)
section
variable {g : Nat} {A : Option Addr} {n c : Nat}
def wch (g : Nat) (A : Option Addr) (n c : Nat) (s : St) (m : List Int) : Chunk := two (blk g 42 (stL s).toArray) (row IW 2 (.slice A n c) m)
set_option maxRecDepth 100000 in
set_option maxHeartbeats 1000000 in
theorem read_calls {W0 w : World} {L : List Chunk} {m : List Int} (a : Int) (i : Nat) (hi : L[i]? = some (row IW 2 (.slice A n c) m)) (HS : Sat W0 w L) :
    Calls Try.prog 59 #[.slice A n c, .int .i64 a] w fun e w' => e = .returned (.tuple #[.int .i64 (wRd m a).1, .bool (wRd m a).2]) ∧ Sat W0 w' L := by
  have hcap := row_len HS i hi
  obtain ⟨e, hc⟩ := hcap
  subst e
  unfold wRd
  by_cases h : 0 ≤ a ∧ a < (m.length : Int)
  · rw [if_pos h]
    obtain ⟨h0, h1⟩ := h
    have h0b : decide (a < 0) = false := decide_eq_false (by omega)
    have h1b : decide ((m.length : Int) ≤ a) = false := decide_eq_false (by omega)
    obtain ⟨b, rfl, hcell, hfr, _⟩ := Sat.word HS i hi a h0 h1
    have q1 := eq_true h0
    have q2 := eq_true h1
    go_enter Try.func59, Try.ntmps59
    go_wp2
    go_ret2
    exact ⟨rfl, HS⟩
  · rw [if_neg h]
    by_cases h0 : a < 0
    · have h0b : decide (a < 0) = true := decide_eq_true h0
      clear h
      go_enter Try.func59, Try.ntmps59
      go_wp2
      go_ret2
      exact ⟨rfl, HS⟩
    · have h0b : decide (a < 0) = false := decide_eq_false h0
      have h1b : decide ((m.length : Int) ≤ a) = true := decide_eq_true (by omega)
      clear h
      go_enter Try.func59, Try.ntmps59
      go_wp2
      go_ret2
      exact ⟨rfl, HS⟩
set_option maxRecDepth 100000 in
set_option maxHeartbeats 1000000 in
theorem write_calls {W0 w : World} {L : List Chunk} {m : List Int} (a v : Int) (i : Nat) (hi : L[i]? = some (row IW 2 (.slice A n c) m)) (HS : Sat W0 w L) :
    Calls Try.prog 39 #[.slice A n c, .int .i64 a, .int .i64 v] w fun e w' => e = .returned (.bool (wWr m a v).2) ∧ Sat W0 w' (L.set i (row IW 2 (.slice A n c) (wWr m a v).1)) := by
  have hself : L.set i (row IW 2 (.slice A n c) m) = L := by
    apply List.ext_getElem?
    intro j
    by_cases e : i = j
    · subst e
      rw [List.getElem?_set_self (List.getElem?_eq_some_iff.1 hi).1, hi]
    · rw [List.getElem?_set_ne e]
  have hcap := row_len HS i hi
  obtain ⟨e, hc⟩ := hcap
  subst e
  unfold wWr
  by_cases h : 0 ≤ a ∧ a < (m.length : Int)
  · rw [if_pos h]
    obtain ⟨h0, h1⟩ := h
    have h0b : decide (a < 0) = false := decide_eq_false (by omega)
    have h1b : decide ((m.length : Int) ≤ a) = false := decide_eq_false (by omega)
    obtain ⟨b, rfl, hcell, hfr, hset⟩ := Sat.word HS i hi a h0 h1
    have q1 := eq_true h0
    have q2 := eq_true h1
    have HW := Aside0.mk (hset v)
    clear hset hself
    go_enter Try.func39, Try.ntmps39
    go_wp2
    go_ret
    exact ⟨rfl, HW.out⟩
  · rw [if_neg h, hself]
    clear hself
    by_cases h0 : a < 0
    · have h0b : decide (a < 0) = true := decide_eq_true h0
      clear h
      go_enter Try.func39, Try.ntmps39
      go_wp2
      go_ret
      exact ⟨rfl, HS⟩
    · have h0b : decide (a < 0) = false := decide_eq_false h0
      have h1b : decide ((m.length : Int) ≤ a) = true := decide_eq_true (by omega)
      clear h
      go_enter Try.func39, Try.ntmps39
      go_wp2
      go_ret
      exact ⟨rfl, HS⟩
end
/-- The machine over words. -/
def wMem (g : Nat) (A : Option Addr) (n c : Nat) : Mem g (List Int) where
  f := wF
  T := 44
  self := .slice A n c
  fR := 59
  fW := 39
  sR := .slice A n c
  sW := .slice A n c
  ch := wch g A n c
  ok := fun _ => True
  cell := fun HS j hj => by
    have h := (Sat.split HS).cell 0 rfl j
    rw [h]
    simp
  frz := fun HS j => (Sat.split HS).frozen 0 rfl j
  set := fun {W0 w L s s' m} HS j v hj he => by
    have h := (Sat.split HS).store 0 rfl j v
    have e : (stL s).toArray.setIfInBounds j v = (stL s').toArray := by rw [he]; simp
    rw [e] at h
    exact h.join
  mR := fun w => by kernel_rfl
  mW := fun w => by kernel_rfl
  nW := fun w => by kernel_rfl
  eR := fun args w => by kernel_rfl
  eW := fun args w => by kernel_rfl
  hR := fun {W0 w L s m} a hs _ HS => (read_calls a 1 rfl (Sat.split HS)).mono fun e w' ⟨h, h2⟩ => ⟨h, h2.join⟩
  hW := fun {W0 w L s m} a v hs _ HS => (write_calls a v 1 rfl (Sat.split HS)).mono fun e w' ⟨h, h2⟩ => ⟨h, Sat.join h2⟩
end Go.Proofs.Ytkgoljbimblkhaa.B
