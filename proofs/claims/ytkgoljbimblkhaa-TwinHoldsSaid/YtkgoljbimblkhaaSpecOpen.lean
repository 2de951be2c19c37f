/- A script of deeds that comes in. -/
import Derived.Test.YtkgoljbimblkhaaOpenImg
import Derived.Test.YtkgoljbimblkhaaMachOpen
namespace Go.Proofs.Ytkgoljbimblkhaa.B
open Go.RowKit Go.Proofs.Ytkgoljbimblkhaa.Mine Go.Proofs.Ytkgoljbimblkhaa.Sep Go.Proofs.YtkgoljbimblkhaaW.PrintWords Go.Proofs.YtkgoljbimblkhaaW.PrintLast Go.Proofs.YtkgoljbimblkhaaW.PrintMore
set_option linter.unusedVariables false
set_option linter.unusedSimpArgs false
/-- A deed: what, and where to. -/
def kDeed : Kd (Int × Int) := Kd.pair (Kd.int .i64) (Kd.int .i64)
def rd_D (xs : List (Int × Int)) (i : Int) : Int × Int := xs.getD i.toNat (0, 0)
theorem kDeed_open {w : World} {x : Int × Int} {cs : List Value} (h : kDeed.K w x cs) : cs = [.int .i64 x.1, .int .i64 x.2] := by
  obtain ⟨_, _, rfl, rfl, rfl⟩ := h
  exact rfl
theorem kDeed_mk (w : World) (x : Int × Int) : kDeed.K w x [.int .i64 x.1, .int .i64 x.2] := ⟨[.int .i64 x.1], [.int .i64 x.2], rfl, rfl, rfl⟩
theorem kDeed_mkM (w : World) (base : Nat) (ok : Nat → Prop) (x : Int × Int) : kDeed.M w base ok x [.int .i64 x.1, .int .i64 x.2] := ⟨[.int .i64 x.1], [.int .i64 x.2], rfl, rfl, rfl⟩
theorem at_D {w : World} {A : Option Addr} {n : Nat} {xs : List (Int × Int)} (h : Kd.C kDeed w A n xs) (i : Int) (h0 : 0 ≤ i) (h1 : i < n) : ∃ ad, A = some ad ∧ w.cell? (ad.add (i.toNat * 2)) = some (.int .i64 (rd_D xs i).1) ∧ w.cell? ⟨(ad.add (i.toNat * 2)).block, (ad.add (i.toNat * 2)).off + 1, none⟩ = some (.int .i64 (rd_D xs i).2) := by
  obtain ⟨ad, c, e, _, hK, hc0⟩ := Kd.C_get h ((0 : Int), (0 : Int)) i h0 h1
  have hc : ∀ j u, c[j]? = some u → w.cell? (ad.add (i.toNat * 2 + j)) = some u := hc0
  obtain rfl := kDeed_open hK
  exact ⟨ad, e, hc 0 _ rfl, by rw [← add_field _ _ 1 (by omega)]; exact hc 1 _ rfl⟩
set_option maxRecDepth 100000 in
theorem deedUnder : Try.prog.underlying 72 = some (.struct (fieldsOf 72)) := by kernel_rfl
set_option maxRecDepth 100000 in
theorem deedSize : (fieldsOf 72).size = 2 := by kernel_rfl
set_option maxRecDepth 100000 in
theorem deedEach : ∀ i, i < 2 → ∃ f, (fieldsOf 72)[i]? = some f ∧ Try.prog.underlying f.type = some (.int .i64) ∧ f.offset = i ∧ Try.prog.cellsOf f.type = 1 := by
  intro i hi
  have h : i = 0 ∨ i = 1 := by omega
  rcases h with rfl | rfl
  · exact field_int (by kernel_rfl)
  · exact field_int (by kernel_rfl)
theorem twoOf {α : Type} {l : List α} (h : l.length = 2) : ∃ a b, l = [a, b] := by
  match l, h with
  | [a, b], _ => exact ⟨a, b, rfl⟩
section
variable {H : Type} {enc : TypeId × Value → H} {w : World} {base : Nat} {spare : Nat → Bool} {held : Bool} {fuel : Nat} {cs : List Value} {x : DataW H × List MemPlace}
set_option maxRecDepth 100000 in
theorem trod_deed (h : DataW.trod enc Try.prog w base spare held fuel 72 cs = some x) : ∃ a : Int × Int, kDeed.K w a cs ∧ ((Lit.int .i64 a.1).wf = true ∧ (Lit.int .i64 a.2).wf = true) := by
  obtain ⟨zs, h1, h2, h3⟩ := trod_ints (k := .i64) deedUnder (by rw [deedSize]; kernel_rfl) (fun i f hf => by
    have hi : i < 2 := by
      have := (Array.getElem?_eq_some_iff.mp hf).1
      rw [deedSize] at this; exact this
    obtain ⟨g, hg, r⟩ := deedEach i hi
    rw [hf] at hg
    cases hg
    exact r) h
  rw [deedSize] at h2
  obtain ⟨a, b, rfl⟩ := twoOf h2
  subst h1
  exact ⟨(a, b), kDeed_mk _ (a, b), h3 _ (by simp), h3 _ (by simp)⟩
set_option maxRecDepth 100000 in
theorem open_script {v : Value} {d : DataW H} {p : List MemPlace} (h : Arg enc Try.prog w 27 v d p) : ∃ A c, ∃ l : List (Int × Int), v = .slice A l.length c ∧ l.length ≤ c ∧ Kd.C kDeed w A l.length l := by
  obtain ⟨fuel, hr⟩ := h.read
  obtain ⟨A, n, cap, xs, hcs, h1, _, h2, _, _⟩ := trod_row kDeed _ Try.underlying27 (by kernel_rfl) (fun fuel cs x h => trod_deed h) hr
  have e : xs.length = n := h2.1
  subst e
  obtain ⟨b, hok⟩ := h.ok
  obtain ⟨a', b', c', rfl⟩ := Go.WideShapes.okWide_slice Try.underlying27 hok
  simp only [Value.cells] at hcs
  cases hcs
  exact ⟨_, _, xs, rfl, h1, h2⟩
end
end Go.Proofs.Ytkgoljbimblkhaa.B
