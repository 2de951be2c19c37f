/- MachCalls' program: calls within each other: what its run comes to, in plain words. -/
import Derived.Test.YtigimkcppocodaaMachSame
namespace Go.Proofs.Ytigimkcppocodaa.B
open Go.RowKit Go.Proofs.Ytigimkcppocodaa.Mine Go.Proofs.Ytigimkcppocodaa.Sep Go.Proofs.YtigimkcppocodaaW.PrintWords Go.Proofs.YtigimkcppocodaaW.PrintLast Go.Proofs.YtigimkcppocodaaW.PrintMore
set_option linter.unusedVariables false
set_option linter.unusedSimpArgs false

def cC (n : Int) : List S58 := [⟨1, 1, 0, 0, 0, n⟩, ⟨1, 2, 0, 0, 0, 1⟩, ⟨8, 0, 0, 0, 0, 4⟩, ⟨11, 0, 3, 0, 0, 0⟩, ⟨7, 0, 1, 0, 0, 6⟩, ⟨9, 0, 0, 0, 0, 0⟩, ⟨3, 1, 1, 2, 2, 0⟩, ⟨3, 63, 63, 2, 1, 0⟩, ⟨8, 0, 0, 0, 0, 4⟩, ⟨3, 63, 63, 2, 2, 0⟩, ⟨3, 3, 3, 2, 1, 0⟩, ⟨9, 0, 0, 0, 0, 0⟩]
/-- The registers: 1, 3 and 63; 2 is 1. -/
def rg (a c d : Int) : List Int := [0, a, 1, c, 0, 0, 0, 0, 0, 0, 0, 0, 0, 0, 0, 0, 0, 0, 0, 0, 0, 0, 0, 0, 0, 0, 0, 0, 0, 0, 0, 0, 0, 0, 0, 0, 0, 0, 0, 0, 0, 0, 0, 0, 0, 0, 0, 0, 0, 0, 0, 0, 0, 0, 0, 0, 0, 0, 0, 0, 0, 0, 0, d]
abbrev Cf := St × List Int
def stp (code : List S58) (p : Cf) : Cf := ((stepF wF code p.1 p.2).1, (stepF wF code p.1 p.2).2.1)
def To (code : List S58) : Nat → Cf → Cf → Prop
  | 0, p, q => p = q
  | k + 1, p, q => To code k (stp code p) q
theorem To.step {code : List S58} {k : Nat} {p q r : Cf} (h : stp code p = q) (h2 : To code k q r) : To code (k + 1) p r := by
  unfold To
  rw [h]
  exact h2
theorem To.trans {code : List S58} : ∀ {j k : Nat} {p q r : Cf}, To code j p q → To code k q r → To code (k + j) p r
  | 0, k, p, q, r, h, h2 => by cases h; exact h2
  | j + 1, k, p, q, r, h, h2 => To.trans (j := j) (k := k) h h2
theorem To.one {code : List S58} {p q : Cf} (h : stp code p = q) : To code 1 p q := h
theorem stp_do {code : List S58} {s : St} {m : List Int} (i : S58) (he : s.ended = false) (h0 : 0 ≤ s.pc) (h1 : s.pc < (code.length : Int)) (hi : rd_T58 code s.pc = i) (h2 : 0 ≤ s.steps) (h3 : s.steps ≤ 100000) :
    stp code (s, m) = ((doF wF i { s with steps := s.steps + 1 } m).1, (doF wF i { s with steps := s.steps + 1 } m).2.1) := by
  unfold stp stepF
  rw [if_neg (by rw [he]; decide), if_neg (show ¬ (s.pc < 0 ∨ (code.length : Int) ≤ s.pc) by omega), hi, w64 (s.steps + 1) (by omega) (by omega)]
theorem stp_ended {code : List S58} {p : Cf} (he : p.1.ended = true) : stp code p = p := by
  unfold stp stepF
  rw [if_pos he]
theorem run_to {code : List S58} {fuel : Int} (hf : fuel ≤ 100000) : ∀ (k : Nat) (N : Nat) (s : St) (m : List Int) (q : Cf), s.regs.length = 64 → To code k (s, m) q → q.1.ended = true → 0 ≤ s.steps → s.steps + k ≤ fuel → k ≤ N → (runN code fuel N s m).1 = q.1
  | 0, N, s, m, q, hs, h, he, _, _, _ => by
    cases h
    rw [runN_end (.inl he)]
  | k + 1, N, s, m, q, hs, h, he, h0, h1, h2 => by
    obtain ⟨N, rfl⟩ : ∃ j, N = j + 1 := ⟨N - 1, by omega⟩
    by_cases hx : s.ended = true
    · have h' : To code k (s, m) q := by
        have h3 : To code k (stp code (s, m)) q := h
        rwa [stp_ended hx] at h3
      exact run_to hf k (N + 1) s m q hs h' he h0 (by omega) (by omega)
    · have hx' : s.ended = false := by simpa using hx
      have hk := stepF_keeps wF code s m hs
      have hst := hk.2.1 hx'
      rw [w64 _ (by omega) (by omega)] at hst
      rw [runN, if_neg (by rw [hx']; simp; omega)]
      exact run_to hf k N _ _ q hk.1 h he (by omega) (by omega) (by omega)
abbrev sx (a c d pc K : Int) : St := ⟨rg a c d, pc, false, 0, 0, K⟩
theorem cC_len (n : Int) : ((cC n).length : Int) = 12 := rfl
section
variable {n a c d K r : Int} {m : List Int}
theorem add1 (x y : Int) (h : -100000 ≤ x + y) (h2 : x + y ≤ 100000) : doW 1 x y = (x + y, true) := by
  have e : doW 1 x y = (wrap64 (x + y), true) := rfl
  rw [e, w64 _ (by omega) (by omega)]
theorem sub1 (x y : Int) (h : -100000 ≤ x - y) (h2 : x - y ≤ 100000) : doW 2 x y = (x - y, true) := by
  have e : doW 2 x y = (wrap64 (x - y), true) := rfl
  rw [e, w64 _ (by omega) (by omega)]
theorem c4 (h : a ≠ 0) (h2 : 0 ≤ K) (h3 : K ≤ 100000) : stp (cC n) (sx a c d 4 K, m) = (sx a c d 6 (K + 1), m) := by
  rw [stp_do ⟨7, 0, 1, 0, 0, 6⟩ rfl (by first | decide | (dsimp only [sx, beginS, z0]; decide) | (rw [cC_len]; dsimp only [sx, beginS, z0]; decide)) (by first | decide | (dsimp only [sx, beginS, z0]; decide) | (rw [cC_len]; dsimp only [sx, beginS, z0]; decide)) rfl h2 h3]
  unfold doF
  rw [if_neg (by decide), if_neg (by decide), if_neg (by decide), if_neg (by decide), if_neg (by decide), if_pos rfl, if_neg (show ¬ rd (rg a c d) 1 = 0 from h)]
theorem c4z (h2 : 0 ≤ K) (h3 : K ≤ 100000) : stp (cC n) (sx 0 c d 4 K, m) = (sx 0 c d 5 (K + 1), m) := by
  rw [stp_do ⟨7, 0, 1, 0, 0, 6⟩ rfl (by first | decide | (dsimp only [sx, beginS, z0]; decide) | (rw [cC_len]; dsimp only [sx, beginS, z0]; decide)) (by first | decide | (dsimp only [sx, beginS, z0]; decide) | (rw [cC_len]; dsimp only [sx, beginS, z0]; decide)) rfl h2 h3]
  unfold doF
  rw [if_neg (by decide), if_neg (by decide), if_neg (by decide), if_neg (by decide), if_neg (by decide), if_pos rfl, if_pos (show rd (rg 0 c d) 1 = 0 from rfl), w64 _ (by first | decide | (dsimp only [sx, beginS, z0]; decide) | (rw [cC_len]; dsimp only [sx, beginS, z0]; decide)) (by first | decide | (dsimp only [sx, beginS, z0]; decide) | (rw [cC_len]; dsimp only [sx, beginS, z0]; decide))]
  rfl
theorem c6 (h : -1000 ≤ a) (h' : a ≤ 1000) (h2 : 0 ≤ K) (h3 : K ≤ 100000) : stp (cC n) (sx a c d 6 K, m) = (sx (a - 1) c d 7 (K + 1), m) := by
  rw [stp_do ⟨3, 1, 1, 2, 2, 0⟩ rfl (by first | decide | (dsimp only [sx, beginS, z0]; decide) | (rw [cC_len]; dsimp only [sx, beginS, z0]; decide)) (by first | decide | (dsimp only [sx, beginS, z0]; decide) | (rw [cC_len]; dsimp only [sx, beginS, z0]; decide)) rfl h2 h3]
  unfold doF
  rw [if_neg (by decide), if_neg (by decide), if_pos rfl, show rd (rg a c d) 1 = a from rfl, show rd (rg a c d) 2 = 1 from rfl, sub1 a 1 (by omega) (by omega), if_pos rfl, w64 _ (by first | decide | (dsimp only [sx, beginS, z0]; decide) | (rw [cC_len]; dsimp only [sx, beginS, z0]; decide)) (by first | decide | (dsimp only [sx, beginS, z0]; decide) | (rw [cC_len]; dsimp only [sx, beginS, z0]; decide))]
  rfl
theorem c7 (h : -1000 ≤ d) (h' : d ≤ 1000) (h2 : 0 ≤ K) (h3 : K ≤ 100000) : stp (cC n) (sx a c d 7 K, m) = (sx a c (d + 1) 8 (K + 1), m) := by
  rw [stp_do ⟨3, 63, 63, 2, 1, 0⟩ rfl (by first | decide | (dsimp only [sx, beginS, z0]; decide) | (rw [cC_len]; dsimp only [sx, beginS, z0]; decide)) (by first | decide | (dsimp only [sx, beginS, z0]; decide) | (rw [cC_len]; dsimp only [sx, beginS, z0]; decide)) rfl h2 h3]
  unfold doF
  rw [if_neg (by decide), if_neg (by decide), if_pos rfl, show rd (rg a c d) 63 = d from rfl, show rd (rg a c d) 2 = 1 from rfl, add1 d 1 (by omega) (by omega), if_pos rfl, w64 _ (by first | decide | (dsimp only [sx, beginS, z0]; decide) | (rw [cC_len]; dsimp only [sx, beginS, z0]; decide)) (by first | decide | (dsimp only [sx, beginS, z0]; decide) | (rw [cC_len]; dsimp only [sx, beginS, z0]; decide))]
  rfl
theorem c9 (h : -1000 ≤ d) (h' : d ≤ 1000) (h2 : 0 ≤ K) (h3 : K ≤ 100000) : stp (cC n) (sx a c d 9 K, m) = (sx a c (d - 1) 10 (K + 1), m) := by
  rw [stp_do ⟨3, 63, 63, 2, 2, 0⟩ rfl (by first | decide | (dsimp only [sx, beginS, z0]; decide) | (rw [cC_len]; dsimp only [sx, beginS, z0]; decide)) (by first | decide | (dsimp only [sx, beginS, z0]; decide) | (rw [cC_len]; dsimp only [sx, beginS, z0]; decide)) rfl h2 h3]
  unfold doF
  rw [if_neg (by decide), if_neg (by decide), if_pos rfl, show rd (rg a c d) 63 = d from rfl, show rd (rg a c d) 2 = 1 from rfl, sub1 d 1 (by omega) (by omega), if_pos rfl, w64 _ (by first | decide | (dsimp only [sx, beginS, z0]; decide) | (rw [cC_len]; dsimp only [sx, beginS, z0]; decide)) (by first | decide | (dsimp only [sx, beginS, z0]; decide) | (rw [cC_len]; dsimp only [sx, beginS, z0]; decide))]
  rfl
theorem c10 (h : -1000 ≤ c) (h' : c ≤ 1000) (h2 : 0 ≤ K) (h3 : K ≤ 100000) : stp (cC n) (sx a c d 10 K, m) = (sx a (c + 1) d 11 (K + 1), m) := by
  rw [stp_do ⟨3, 3, 3, 2, 1, 0⟩ rfl (by first | decide | (dsimp only [sx, beginS, z0]; decide) | (rw [cC_len]; dsimp only [sx, beginS, z0]; decide)) (by first | decide | (dsimp only [sx, beginS, z0]; decide) | (rw [cC_len]; dsimp only [sx, beginS, z0]; decide)) rfl h2 h3]
  unfold doF
  rw [if_neg (by decide), if_neg (by decide), if_pos rfl, show rd (rg a c d) 3 = c from rfl, show rd (rg a c d) 2 = 1 from rfl, add1 c 1 (by omega) (by omega), if_pos rfl, w64 _ (by first | decide | (dsimp only [sx, beginS, z0]; decide) | (rw [cC_len]; dsimp only [sx, beginS, z0]; decide)) (by first | decide | (dsimp only [sx, beginS, z0]; decide) | (rw [cC_len]; dsimp only [sx, beginS, z0]; decide))]
  rfl
theorem wr_in (h : 0 ≤ d) (h' : d < (m.length : Int)) (v : Int) : wF.wr m d v = (m.set d.toNat v, true) := by
  show wWr m d v = _
  unfold wWr
  rw [if_pos ⟨h, h'⟩]
theorem wr_out (h' : (m.length : Int) ≤ d) (v : Int) : wF.wr m d v = (m, false) := by
  show wWr m d v = _
  unfold wWr
  rw [if_neg (by omega)]
theorem rd_in (h : 0 ≤ d) (h' : d < (m.length : Int)) : wF.rd m d = (rd m d, true) := by
  show wRd m d = _
  unfold wRd
  rw [if_pos ⟨h, h'⟩]
theorem call_in {pc : Int} (hpc : pc = 2 ∨ pc = 8) (h : 0 ≤ d) (h' : d < (m.length : Int)) (h2 : 0 ≤ K) (h3 : K ≤ 100000) : stp (cC n) (sx a c d pc K, m) = (sx a c d 4 (K + 1), m.set d.toNat (pc + 1)) := by
  rw [stp_do ⟨8, 0, 0, 0, 0, 4⟩ rfl (by rcases hpc with rfl | rfl <;> (first | decide | (dsimp only [sx, beginS, z0]; decide) | (rw [cC_len]; dsimp only [sx, beginS, z0]; decide))) (by rcases hpc with rfl | rfl <;> (first | decide | (dsimp only [sx, beginS, z0]; decide) | (rw [cC_len]; dsimp only [sx, beginS, z0]; decide))) (by rcases hpc with rfl | rfl <;> rfl) h2 h3]
  unfold doF
  rw [if_neg (by decide), if_neg (by decide), if_neg (by decide), if_neg (by decide), if_neg (by decide), if_neg (by decide), if_pos (.inl rfl)]
  unfold callF
  rw [if_pos rfl, show rd (rg a c d) 63 = d from rfl, wr_in h h', if_pos rfl, show wrap64 ((sx a c d pc K).pc + 1) = pc + 1 from by rcases hpc with rfl | rfl <;> exact w64 _ (by first | decide | (dsimp only [sx, beginS, z0]; decide) | (rw [cC_len]; dsimp only [sx, beginS, z0]; decide)) (by first | decide | (dsimp only [sx, beginS, z0]; decide) | (rw [cC_len]; dsimp only [sx, beginS, z0]; decide))]
theorem call_out {pc : Int} (hpc : pc = 2 ∨ pc = 8) (h' : (m.length : Int) ≤ d) (h2 : 0 ≤ K) (h3 : K ≤ 100000) : stp (cC n) (sx a c d pc K, m) = (⟨rg a c d, pc, true, 0, 4, K + 1⟩, m) := by
  rw [stp_do ⟨8, 0, 0, 0, 0, 4⟩ rfl (by rcases hpc with rfl | rfl <;> (first | decide | (dsimp only [sx, beginS, z0]; decide) | (rw [cC_len]; dsimp only [sx, beginS, z0]; decide))) (by rcases hpc with rfl | rfl <;> (first | decide | (dsimp only [sx, beginS, z0]; decide) | (rw [cC_len]; dsimp only [sx, beginS, z0]; decide))) (by rcases hpc with rfl | rfl <;> rfl) h2 h3]
  unfold doF
  rw [if_neg (by decide), if_neg (by decide), if_neg (by decide), if_neg (by decide), if_neg (by decide), if_neg (by decide), if_pos (.inl rfl)]
  unfold callF
  rw [if_pos rfl, show rd (rg a c d) 63 = d from rfl, wr_out h', if_neg (fun h => Bool.noConfusion h)]
  rfl
theorem ret_in {pc : Int} (hpc : pc = 5 ∨ pc = 11) (h : 0 ≤ d) (h' : d < (m.length : Int)) (hr : rd m d = r) (r0 : 0 ≤ r) (r1 : r < 32768) (h2 : 0 ≤ K) (h3 : K ≤ 100000) : stp (cC n) (sx a c d pc K, m) = (sx a c d r (K + 1), m) := by
  rw [stp_do ⟨9, 0, 0, 0, 0, 0⟩ rfl (by rcases hpc with rfl | rfl <;> (first | decide | (dsimp only [sx, beginS, z0]; decide) | (rw [cC_len]; dsimp only [sx, beginS, z0]; decide))) (by rcases hpc with rfl | rfl <;> (first | decide | (dsimp only [sx, beginS, z0]; decide) | (rw [cC_len]; dsimp only [sx, beginS, z0]; decide))) (by rcases hpc with rfl | rfl <;> rfl) h2 h3]
  unfold doF
  rw [if_neg (by decide), if_neg (by decide), if_neg (by decide), if_neg (by decide), if_neg (by decide), if_neg (by decide), if_pos (.inr rfl)]
  unfold callF
  rw [if_neg (by decide), show rd (rg a c d) 63 = d from rfl, rd_in h h', hr, if_pos ⟨rfl, r0, r1⟩]
theorem halt (h2 : 0 ≤ K) (h3 : K ≤ 100000) : stp (cC n) (sx a c d 3 K, m) = (⟨rg a c d, 3, true, c, 0, K + 1⟩, m) := by
  rw [stp_do ⟨11, 0, 3, 0, 0, 0⟩ rfl (by first | decide | (dsimp only [sx, beginS, z0]; decide) | (rw [cC_len]; dsimp only [sx, beginS, z0]; decide)) (by first | decide | (dsimp only [sx, beginS, z0]; decide) | (rw [cC_len]; dsimp only [sx, beginS, z0]; decide)) rfl h2 h3]
  rfl
theorem num0 (mm : List Int) : stp (cC n) (beginS 0, mm) = (⟨(beginS 0).regs.set 1 n, 1, false, 0, 0, 1⟩, mm) := by
  rw [stp_do ⟨1, 1, 0, 0, 0, n⟩ rfl (by first | decide | (dsimp only [sx, beginS, z0]; decide) | (rw [cC_len]; dsimp only [sx, beginS, z0]; decide)) (by first | decide | (dsimp only [sx, beginS, z0]; decide) | (rw [cC_len]; dsimp only [sx, beginS, z0]; decide)) rfl (by first | decide | (dsimp only [sx, beginS, z0]; decide) | (rw [cC_len]; dsimp only [sx, beginS, z0]; decide)) (by first | decide | (dsimp only [sx, beginS, z0]; decide) | (rw [cC_len]; dsimp only [sx, beginS, z0]; decide))]
  unfold doF
  rw [if_pos rfl, show wrap64 ((beginS 0).pc + 1) = 1 from w64 _ (by first | decide | (dsimp only [sx, beginS, z0]; decide) | (rw [cC_len]; dsimp only [sx, beginS, z0]; decide)) (by first | decide | (dsimp only [sx, beginS, z0]; decide) | (rw [cC_len]; dsimp only [sx, beginS, z0]; decide))]
  rfl
theorem num1 (mm : List Int) : stp (cC n) (⟨(beginS 0).regs.set 1 n, 1, false, 0, 0, 1⟩, mm) = (sx n 0 0 2 2, mm) := by
  rw [stp_do ⟨1, 2, 0, 0, 0, 1⟩ rfl (by first | decide | (dsimp only [sx, beginS, z0]; decide) | (rw [cC_len]; dsimp only [sx, beginS, z0]; decide)) (by first | decide | (dsimp only [sx, beginS, z0]; decide) | (rw [cC_len]; dsimp only [sx, beginS, z0]; decide)) rfl (by first | decide | (dsimp only [sx, beginS, z0]; decide) | (rw [cC_len]; dsimp only [sx, beginS, z0]; decide)) (by first | decide | (dsimp only [sx, beginS, z0]; decide) | (rw [cC_len]; dsimp only [sx, beginS, z0]; decide))]
  unfold doF
  rw [if_pos rfl, w64 _ (by first | decide | (dsimp only [sx, beginS, z0]; decide) | (rw [cC_len]; dsimp only [sx, beginS, z0]; decide)) (by first | decide | (dsimp only [sx, beginS, z0]; decide) | (rw [cC_len]; dsimp only [sx, beginS, z0]; decide))]
  rfl
end
theorem rdset_same (l : List Int) (a v : Int) (h0 : 0 ≤ a) (h1 : a < (l.length : Int)) : rd (l.set a.toNat v) a = v := by
  unfold rd
  rw [List.getD_eq_getElem?_getD, List.getElem?_set_self (by omega)]
  rfl
theorem rdset_ne (l : List Int) (a k v : Int) (h0 : 0 ≤ a) (hk : 0 ≤ k) (h : k ≠ a) : rd (l.set a.toNat v) k = rd l k := by
  unfold rd
  rw [List.getD_eq_getElem?_getD, List.getElem?_set_ne (by omega), List.getD_eq_getElem?_getD]
theorem f_ok (n : Int) : ∀ (a : Nat) (c d K r : Int) (m : List Int), 0 ≤ d → d + a < (m.length : Int) → m.length ≤ 100 → rd m d = r → 0 ≤ r → r < 32768 → 0 ≤ c → c + a ≤ 200 → 0 ≤ K → K + 7 * a + 2 ≤ 90000 →
    ∃ m', To (cC n) (7 * a + 2) (sx a c d 4 K, m) (sx 0 (c + a) d r (K + 7 * a + 2), m') ∧ m'.length = m.length ∧ ∀ j, 0 ≤ j → j ≤ d → rd m' j = rd m j
  | 0, c, d, K, r, m, d0, d1, hm, hr, r0, r1, c0, c1, k0, k1 => by
    refine ⟨m, ?_, rfl, fun _ _ _ => rfl⟩
    refine To.step (c4z k0 (by omega)) (To.one ?_)
    rw [ret_in (.inl rfl) d0 (by omega) hr r0 r1 (by omega) (by omega), show K + 1 + 1 = K + 7 * ((0 : Nat) : Int) + 2 by omega, show c + ((0 : Nat) : Int) = c by omega]
  | a + 1, c, d, K, r, m, d0, d1, hm, hr, r0, r1, c0, c1, k0, k1 => by
    have hl : (m.set (d + 1).toNat 9).length = m.length := List.length_set
    obtain ⟨m', h, hl', hk⟩ := f_ok n a c (d + 1) (K + 4) 9 (m.set (d + 1).toNat 9) (by omega) (by rw [hl]; omega) (by rw [hl]; omega) (rdset_same m (d + 1) 9 (by omega) (by omega)) (by decide) (by decide) c0 (by omega) (by omega) (by omega)
    refine ⟨m', ?_, by rw [hl', hl], fun j j0 j1 => by rw [hk j j0 (by omega), rdset_ne m (d + 1) j 9 (by omega) j0 (by omega)]⟩
    have hrd : rd m' d = r := by rw [hk d d0 (by omega), rdset_ne m (d + 1) d 9 (by omega) d0 (by omega), hr]
    have A : To (cC n) 4 (sx ((a + 1 : Nat) : Int) c d 4 K, m) (sx (a : Int) c (d + 1) 4 (K + 4), m.set (d + 1).toNat 9) := by
      refine To.step (c4 (by omega) k0 (by omega)) (To.step (c6 (by omega) (by omega) (by omega) (by omega)) (To.step (c7 (by omega) (by omega) (by omega) (by omega)) (To.one ?_)))
      rw [call_in (.inr rfl) (by omega) (by omega) (by omega) (by omega), show ((a + 1 : Nat) : Int) - 1 = a by omega, show K + 1 + 1 + 1 + 1 = K + 4 by omega]
      rfl
    have B : To (cC n) 3 (sx 0 (c + a) (d + 1) 9 (K + 4 + 7 * a + 2), m') (sx 0 (c + ((a + 1 : Nat) : Int)) d r (K + 7 * ((a + 1 : Nat) : Int) + 2), m') := by
      refine To.step (c9 (by omega) (by omega) (by omega) (by omega)) (To.step (c10 (by omega) (by omega) (by omega) (by omega)) (To.one ?_))
      rw [show d + 1 - 1 = d by omega, ret_in (.inr rfl) d0 (by rw [hl', hl]; omega) hrd r0 r1 (by omega) (by omega), show c + (a : Int) + 1 = c + ((a + 1 : Nat) : Int) by omega, show K + 4 + 7 * (a : Int) + 2 + 1 + 1 + 1 = K + 7 * ((a + 1 : Nat) : Int) + 2 by omega]
    have E := (A.trans h).trans B
    rw [show 3 + (7 * a + 2 + 4) = 7 * (a + 1) + 2 by omega] at E
    exact E
theorem f_bad (n : Int) : ∀ (a : Nat) (c d K : Int) (m : List Int), 0 ≤ d → d < (m.length : Int) → (m.length : Int) ≤ d + a → m.length ≤ 100 → a ≤ 100 → 0 ≤ c → c + a ≤ 200 → 0 ≤ K → K + 4 * a ≤ 90000 →
    ∃ (k : Nat) (q : Cf), k ≤ 4 * a ∧ To (cC n) k (sx a c d 4 K, m) q ∧ q.1.ended = true ∧ q.1.trap = 4 ∧ q.1.val = 0
  | 0, c, d, K, m, d0, d1, d2, hm, ha, c0, c1, k0, k1 => by omega
  | a + 1, c, d, K, m, d0, d1, d2, hm, ha, c0, c1, k0, k1 => by
    by_cases hx : (m.length : Int) ≤ d + 1
    · refine ⟨4, (⟨rg a c (d + 1), 8, true, 0, 4, K + 4⟩, m), by omega, ?_, rfl, rfl, rfl⟩
      refine To.step (c4 (by omega) k0 (by omega)) (To.step (c6 (by omega) (by omega) (by omega) (by omega)) (To.step (c7 (by omega) (by omega) (by omega) (by omega)) (To.one ?_)))
      rw [call_out (.inr rfl) hx (by omega) (by omega), show ((a + 1 : Nat) : Int) - 1 = a by omega, show K + 1 + 1 + 1 + 1 = K + 4 by omega]
    · have hl : (m.set (d + 1).toNat 9).length = m.length := List.length_set
      obtain ⟨k, q, hk, h, h1, h2, h3⟩ := f_bad n a c (d + 1) (K + 4) (m.set (d + 1).toNat 9) (by omega) (by rw [hl]; omega) (by rw [hl]; omega) (by rw [hl]; omega) (by omega) c0 (by omega) (by omega) (by omega)
      have A : To (cC n) 4 (sx ((a + 1 : Nat) : Int) c d 4 K, m) (sx (a : Int) c (d + 1) 4 (K + 4), m.set (d + 1).toNat 9) := by
        refine To.step (c4 (by omega) k0 (by omega)) (To.step (c6 (by omega) (by omega) (by omega) (by omega)) (To.step (c7 (by omega) (by omega) (by omega) (by omega)) (To.one ?_)))
        rw [call_in (.inr rfl) (by omega) (by omega) (by omega) (by omega), show ((a + 1 : Nat) : Int) - 1 = a by omega, show K + 1 + 1 + 1 + 1 = K + 4 by omega]
        rfl
      exact ⟨k + 4, q, by omega, A.trans h, h1, h2, h3⟩
theorem calls_right (n mem : Int) (h0 : 0 ≤ mem) (h1 : mem ≤ 100) : image_Image_Right.f 30 (cC n) [] 0 mem = some true := by
  unfold image_Image_Right.f
  rw [if_neg (by simp [cC]), if_neg (by simp [cC]), if_neg (by simp), if_neg (by omega), if_neg (by omega), decide_eq_false (show ¬ mem > 1048576 by omega)]
  kernel_rfl
def callsR (n mem : Int) : St × List Int × List S53 := runF (cC n) 2000 (beginS 0) (startF [] [] mem)
theorem calls_ok (n mem : Int) (n0 : 0 ≤ n) (n1 : n ≤ 63) (m1 : mem ≤ 64) (h : n + 1 ≤ mem) : (callsR n mem).1 = ⟨rg 0 n 0, 3, true, n, 0, 6 + 7 * n⟩ := by
  obtain ⟨a, rfl⟩ : ∃ a : Nat, n = a := ⟨n.toNat, by omega⟩
  have hl : (startF [] [] mem).length = mem.toNat := startF_length _ _ _
  have hl2 : ((startF [] [] mem).set (0 : Int).toNat 3).length = mem.toNat := by rw [List.length_set, hl]
  obtain ⟨m', h1, _, _⟩ := f_ok a a 0 0 3 3 ((startF [] [] mem).set (0 : Int).toNat 3) (by omega) (by rw [hl2]; omega) (by rw [hl2]; omega) (rdset_same _ 0 3 (by omega) (by rw [hl]; omega)) (by decide) (by decide) (by omega) (by omega) (by omega) (by omega)
  have A : To (cC a) 3 (beginS 0, startF [] [] mem) (sx a 0 0 4 3, (startF [] [] mem).set (0 : Int).toNat 3) :=
    To.step (num0 _) (To.step (num1 _) (To.one (call_in (.inl rfl) (by decide) (by rw [hl]; omega) (by decide) (by decide))))
  have C : To (cC a) 1 (sx 0 (0 + (a : Int)) 0 3 (3 + 7 * (a : Int) + 2), m') (⟨rg 0 (0 + (a : Int)) 0, 3, true, 0 + (a : Int), 0, 3 + 7 * (a : Int) + 2 + 1⟩, m') := To.one (halt (by omega) (by omega))
  have E := run_to (fuel := 2000) (by decide) _ 2000 (beginS 0) _ _ (begin_len 0) ((A.trans h1).trans C) rfl (by decide) (by show (0 : Int) + _ ≤ _; push_cast; omega) (by omega)
  unfold callsR runF
  rw [show (2000 : Int).toNat = 2000 from rfl, E]
  rw [show 0 + (a : Int) = a by omega, show 3 + 7 * (a : Int) + 2 + 1 = 6 + 7 * a by omega]
theorem calls_bad (n mem : Int) (n0 : 0 ≤ n) (n1 : n ≤ 63) (m0 : 1 ≤ mem) (m1 : mem ≤ 64) (h : mem < n + 1) : (callsR n mem).1.ended = true ∧ (callsR n mem).1.trap = 4 ∧ (callsR n mem).1.val = 0 := by
  obtain ⟨a, rfl⟩ : ∃ a : Nat, n = a := ⟨n.toNat, by omega⟩
  have hl : (startF [] [] mem).length = mem.toNat := startF_length _ _ _
  have hl2 : ((startF [] [] mem).set (0 : Int).toNat 3).length = mem.toNat := by rw [List.length_set, hl]
  obtain ⟨k, q, hk, h1, e1, e2, e3⟩ := f_bad a a 0 0 3 ((startF [] [] mem).set (0 : Int).toNat 3) (by omega) (by rw [hl2]; omega) (by rw [hl2]; omega) (by rw [hl2]; omega) (by omega) (by omega) (by omega) (by omega) (by omega)
  have A : To (cC a) 3 (beginS 0, startF [] [] mem) (sx a 0 0 4 3, (startF [] [] mem).set (0 : Int).toNat 3) :=
    To.step (num0 _) (To.step (num1 _) (To.one (call_in (.inl rfl) (by decide) (by rw [hl]; omega) (by decide) (by decide))))
  have E := run_to (fuel := 2000) (by decide) _ 2000 (beginS 0) _ _ (begin_len 0) (A.trans h1) e1 (by decide) (by show (0 : Int) + _ ≤ _; push_cast; omega) (by omega)
  unfold callsR runF
  rw [show (2000 : Int).toNat = 2000 from rfl, E]
  exact ⟨e1, e2, e3⟩
end Go.Proofs.Ytigimkcppocodaa.B
