/- The machine that runs ahead: a deed. -/
import Derived.Test.YtkgoljbimblkhaaSpecD
import Derived.Test.YtkgoljbimblkhaaSpecE
import Derived.Test.YtkgoljbimblkhaaSpecF
namespace Go.Proofs.Ytkgoljbimblkhaa.B
open Go.RowKit Go.Proofs.Ytkgoljbimblkhaa.Mine Go.Proofs.Ytkgoljbimblkhaa.Sep Go.Proofs.YtkgoljbimblkhaaW.PrintWords Go.Proofs.YtkgoljbimblkhaaW.PrintLast Go.Proofs.YtkgoljbimblkhaaW.PrintMore
set_option linter.unusedVariables false
set_option linter.unusedSimpArgs false
section
variable {g : Nat} {A : Option Addr} {n c : Nat} {win : Int} {W0 w : World} {L : List Chunk} {Ac At : Option Addr} {cc ct : Nat} {code : List S56} {sites : List Int}

theorem deed_calls {X : SM} {deed tq : Int} (hC : ∀ w, Sat W0 w L → Kd.C k56 w Ac code.length code) (hT : ∀ w, Sat W0 w L → Kd.C (Kd.int .i64) w At sites.length sites) (hfit : ∀ i ∈ code, Fit i) (hnt : sites.length ≤ 1000000) (hn : X.n ≤ 700000) (hb : X.buf.length ≤ 700000) (HS : Sat W0 w (mch g A n c (.slice Ac code.length cc) (.slice At sites.length ct) win X :: L)) :
    Calls Try.prog 22 #[.pointer (some ⟨g, 0, none⟩), .agg #[.int .i64 deed, .int .i64 tq]] w fun e w' => ∃ v, e = .returned v ∧ Sat W0 w' (row k66 66 v (doM code sites win X deed tq).2 :: mch g A n c (.slice Ac code.length cc) (.slice At sites.length ct) win (doM code sites win X deed tq).1 :: L) := by
  unfold doM
  cases hg : X.saved.isSome with
  | false =>
    cases he : X.s.ended with
    | true => rw [if_pos ⟨rfl, rfl⟩]; exact do_none hC hT hfit hnt hn hb he hg HS
    | false =>
      rw [if_neg (by simp), if_neg (by simp), if_neg (by simp)]
      exact doN_N hC hT hfit hnt hn hb he hg HS
  | true =>
    rw [if_neg (by simp)]
    by_cases d3 : deed = 3
    · subst d3
      rw [if_pos ⟨rfl, .inl rfl⟩]
      cases he : X.s.ended with
      | true => exact do_G1_d3 hC hT hfit hnt hn hb he hg HS
      | false => exact do_G0_d3 hC hT hfit hnt hn hb he hg HS
    by_cases hl : X.left = 0
    · rw [if_pos ⟨rfl, .inr hl⟩]
      cases he : X.s.ended with
      | true => exact do_G1_l0 hC hT hfit hnt hn hb he hg d3 hl HS
      | false => exact do_G0_l0 hC hT hfit hnt hn hb he hg d3 hl HS
    rw [if_neg (by rintro ⟨_, h | h⟩; exact d3 h; exact hl h), if_pos rfl]
    cases he : X.s.ended with
    | true => exact doN_G1 hC hT hfit hnt hn hb he hg d3 hl HS
    | false => exact doN_G0 hC hT hfit hnt hn hb he hg d3 hl HS

end
end Go.Proofs.Ytkgoljbimblkhaa.B
