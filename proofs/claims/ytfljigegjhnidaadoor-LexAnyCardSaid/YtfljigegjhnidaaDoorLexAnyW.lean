/- The walk of LexAny: for every text the law returns true. -/
import Derived.Test.YtfljigegjhnidaaDoorLexAnyLaw0
import Derived.Test.YtfljigegjhnidaaDoorLexGap
namespace Go.Proofs.YtfljigegjhnidaaDoor.B
open Go.RowKit Go.Proofs.YtfljigegjhnidaaDoor.Mine Go.Proofs.YtfljigegjhnidaaDoorW.PrintWords Go.Proofs.YtfljigegjhnidaaDoorW.PrintLast Go.Proofs.YtfljigegjhnidaaDoorW.PrintMore
attribute [local go_sem high] eqA26 eqA28
set_option linter.unusedVariables false
set_option linter.unusedSimpArgs false

/-- The world as LexAny has it behind lex.All. -/
structure AX (w0 W : World) (bs b4 : Nat) (s : ByteArray) (c4 : Array Value) (v : Value) (ts : List S34) : Prop where
  ks : W.heap[bs]? = some (.cells #[.string s] 9 (0, 0))
  k4 : W.heap[b4]? = some (.cells c4 28 (0, 0))
  ho : Kd.R k34 34 W w0.heap.size (fun _ => True) v ts
  bl : Below w0.heap.size w0 W
section
variable {w0 W W' : World} {bs b4 : Nat} {s : ByteArray} {c4 : Array Value} {v : Value} {ts : List S34}
theorem AX.below (h : AX w0 W bs b4 s c4 v ts) (hb : Below W.heap.size W W') : AX w0 W' bs b4 s c4 v ts := ⟨blk_below h.ks hb, blk_below h.k4 hb, Kd.R_below h.ho hb, below_step h.bl hb⟩
theorem AX.drewN (h : AX w0 W bs b4 s c4 v ts) (m : Nat) : AX w0 (W.drewN m) bs b4 s c4 v ts := h.below (pw_below_drewN (Below.refl _ _) m)
theorem AX.drew (h : AX w0 W bs b4 s c4 v ts) : AX w0 W.drew bs b4 s c4 v ts := h.below (below_drew (Below.refl _ _))
theorem AX.put4 (h : AX w0 W bs b4 s c4 v ts) (hn : bs ≠ b4) (he : w0.heap.size ≤ b4) (j : Nat) (u : Value) : AX w0 (W.setCell ⟨b4, j, none⟩ u) bs b4 s (c4.setIfInBounds j u) v ts :=
  ⟨blk_far h.ks hn _, blk_set h.k4 j u, Kd.R_mono (Kd.R_far (Kd.R_types h.ho h.k4 (by decide)) (fun _ hk => hk.2) u) (fun _ h => h.1), below_set h.bl he⟩
end
/-- .. and behind the closures' making: how far the text has been met. -/
structure FX (w0 W : World) (bs b4 b5 b6 : Nat) (s : ByteArray) (a : Int) (c4 : Array Value) (v : Value) (ts : List S34) : Prop where
  ax : AX w0 W bs b4 s c4 v ts
  kf : W.heap[b5]? = some (.cells #[.func (.func 11) #[] #[]] 31 (0, 0))
  ka : W.heap[b6]? = some (.cells #[.int .i64 a] 3 (0, 0))
structure FS (w0 : World) (bs b4 b5 b6 : Nat) : Prop where
  e6 : w0.heap.size ≤ b6
  s6 : bs ≠ b6
  f6 : b5 ≠ b6
  n46 : b4 ≠ b6
section
variable {w0 W W' : World} {bs b4 b5 b6 : Nat} {s : ByteArray} {a a' : Int} {c4 : Array Value} {v : Value} {ts : List S34}
theorem FX.below (h : FX w0 W bs b4 b5 b6 s a c4 v ts) (hb : Below W.heap.size W W') : FX w0 W' bs b4 b5 b6 s a c4 v ts := ⟨h.ax.below hb, blk_below h.kf hb, blk_below h.ka hb⟩
theorem FX.drewN (h : FX w0 W bs b4 b5 b6 s a c4 v ts) (m : Nat) : FX w0 (W.drewN m) bs b4 b5 b6 s a c4 v ts := h.below (pw_below_drewN (Below.refl _ _) m)
theorem FX.drew (h : FX w0 W bs b4 b5 b6 s a c4 v ts) : FX w0 W.drew bs b4 b5 b6 s a c4 v ts := h.below (below_drew (Below.refl _ _))
theorem FX.go (hs : FS w0 bs b4 b5 b6) (h : FX w0 W bs b4 b5 b6 s a c4 v ts) (g : GX w0 W W' b6 bs b5 s a') : FX w0 W' bs b4 b5 b6 s a' c4 v ts :=
  ⟨⟨g.ks, KeepBut.blk g.kp h.ax.k4 hs.n46 (by simp), Kd.R_mono (Kd.R_keep (Kd.R_types h.ax.ho h.ka (by decide)) g.kp (fun _ h => h.2)) (fun _ h => h.1), g.bl⟩, g.kf, g.ka⟩
theorem FX.gx (h : FX w0 W bs b4 b5 b6 s a c4 v ts) : GX w0 W W b6 bs b5 s a := ⟨h.ka, h.ax.ks, h.kf, KeepBut.refl _ _ _, h.ax.bl⟩
theorem FX.put (hs : FS w0 bs b4 b5 b6) (h : FX w0 W bs b4 b5 b6 s a c4 v ts) (j : Int) : FX w0 (W.setCell ⟨b6, 0, none⟩ (.int .i64 j)) bs b4 b5 b6 s j c4 v ts :=
  ⟨⟨blk_far h.ax.ks hs.s6 _, blk_far h.ax.k4 hs.n46 _, Kd.R_mono (Kd.R_far (Kd.R_types h.ax.ho h.ka (by decide)) (fun _ hk => hk.2) _) (fun _ h => h.1), below_set h.ax.bl hs.e6⟩, blk_far h.kf hs.f6 _, blk_set h.ka 0 _⟩
/-- .. and a token's block. -/
structure FY (w0 W : World) (bs b4 b5 b6 g : Nat) (s : ByteArray) (a : Int) (c4 : Array Value) (v : Value) (ts : List S34) (c9 : Array Value) : Prop where
  fx : FX w0 W bs b4 b5 b6 s a c4 v ts
  k9 : W.heap[g]? = some (.cells c9 34 (0, 0))
  h9 : Kd.R k34 34 W w0.heap.size (fun k => True ∧ k ≠ g) v ts
structure FT (w0 : World) (bs b4 b5 b6 g : Nat) : Prop where
  e9 : w0.heap.size ≤ g
  s9 : bs ≠ g
  n4 : b4 ≠ g
  n5 : b5 ≠ g
  n6 : b6 ≠ g
variable {g : Nat} {c9 : Array Value}
theorem FY.drewN (h : FY w0 W bs b4 b5 b6 g s a c4 v ts c9) (m : Nat) : FY w0 (W.drewN m) bs b4 b5 b6 g s a c4 v ts c9 := ⟨h.fx.drewN m, h.k9, Kd.R_drewN h.h9 m⟩
theorem FY.below (h : FY w0 W bs b4 b5 b6 g s a c4 v ts c9) (hb : Below W.heap.size W W') : FY w0 W' bs b4 b5 b6 g s a c4 v ts c9 := ⟨h.fx.below hb, blk_below h.k9 hb, Kd.R_below h.h9 hb⟩
theorem FY.drew (h : FY w0 W bs b4 b5 b6 g s a c4 v ts c9) : FY w0 W.drew bs b4 b5 b6 g s a c4 v ts c9 := ⟨h.fx.drew, h.k9, Kd.R_drew h.h9⟩
theorem FY.put9 (ht : FT w0 bs b4 b5 b6 g) (h : FY w0 W bs b4 b5 b6 g s a c4 v ts c9) (j : Nat) (u : Value) : FY w0 (W.setCell ⟨g, j, none⟩ u) bs b4 b5 b6 g s a c4 v ts (c9.setIfInBounds j u) := by
  have h1 := Kd.R_far (p := ⟨g, j, none⟩) h.h9 (fun _ hk => hk.2) u
  exact ⟨⟨⟨blk_far h.fx.ax.ks ht.s9 _, blk_far h.fx.ax.k4 ht.n4 _, Kd.R_mono h1 (fun _ h => h.1), below_set h.fx.ax.bl ht.e9⟩, blk_far h.fx.kf ht.n5 _, blk_far h.fx.ka ht.n6 _⟩, blk_set h.k9 j u, h1⟩
theorem FY.go (hs : FS w0 bs b4 b5 b6) (ht : FT w0 bs b4 b5 b6 g) (h : FY w0 W bs b4 b5 b6 g s a c4 v ts c9) (x : GX w0 W W' b6 bs b5 s a') : FY w0 W' bs b4 b5 b6 g s a' c4 v ts c9 :=
  ⟨h.fx.go hs x, KeepBut.blk x.kp h.k9 ht.n6.symm (by simp), Kd.R_mono (Kd.R_keep (Kd.R_types h.h9 h.fx.ka (by decide)) x.kp (fun _ h => h.2)) (fun _ h => h.1)⟩
end

set_option maxHeartbeats 8000000 in
set_option maxRecDepth 100000 in
theorem any_walk0 (s : ByteArray) (w : World) (hL : GLaid w) (ts : List S34) (e l c : Int) (k : Nat) (hk : 300000 ≤ k) (hs : s.size ≤ 500) (hts : ts.length ≤ 1000) (hall : lex_All.f k s = some (ts, e, l, c))
    (hcase : (e = 0 ∧ l = 0 ∧ c = 0 ∧ At s ts 0 0) ∨ (e ≠ 0 ∧ ts = [] ∧ (e = 10 ∨ e = 11) ∧ 1 ≤ l ∧ 1 ≤ c)) :
    Calls Tryd.prog 3 #[.string s] w fun e w' => e = .returned (.bool true) ∧ Below w.heap.size w w' := by
  have GL := Aside0.mk hL; clear hL
  have A1 := Aside0.mk (head_true k hk)
  have A2 := Aside0.mk hall; clear hall
  have HC := Aside0.mk hcase; clear hcase
  have h500 : decide ((500 : Int) < (s.size : Int)) = false := decide_eq_false (by omega)
  have h500n : decide (500 < s.size) = false := decide_eq_false (by omega)
  go_enter Tryd.func3, Tryd.ntmps3
  go_upto_region 6 with (first
    | ((with_reducible refine gate_dst (N := 1) rfl ?_); refine box_event ?hg (N := 1) ?hd (cs := #[.string s]) (t := 9) ?hr ?_; (case hd => rfl); (case hg => rfl); (case hr => first | (go_simp; done) | (go_simp; rfl)); intro bs hgs w1 hbs hb1; have HBs := Aside0.mk hbs; have HB1 := Aside0.mk hb1; have HES := Aside0.mk (show w.heap.size ≤ bs by rw [hgs]; exact Nat.le_refl _); clear hbs hb1 hgs)
    | ((with_reducible refine gate_callee (f := 9) rfl ?_); refine goesL_ (some 10) rfl rfl Tryd.func9 (by kernel_rfl) rfl #[] rfl (by (try simp only [List.map_toArray, List.map_cons, List.map_nil]); first | done | rfl) ?_; (with_reducible refine (palingslaw02_head.calls k true _ ?sideG A1.out).mono ?_); (case sideG => exact GL.out.below HB1.out); rintro e_ w2 ⟨rfl, hb2⟩; refine ⟨_, rfl, ?_⟩; have n0 := Aside0.mk (blk_below HBs.out hb2); have n1 := Aside0.mk (below_step HB1.out hb2); clear HBs HB1 hb2; have HBs := n0; have HB1 := n1; clear n0 n1; have cs := (blk_cell HBs.out 0).trans (show _ = some (Value.string s) from rfl))
    | ((with_reducible refine gate_callee (f := 10) rfl ?_); refine goesL_ (some 17) rfl rfl Tryd.func10 (by kernel_rfl) rfl #[.string s] rfl (by (try simp only [List.map_toArray, List.map_cons, List.map_nil]); first | done | rfl) ?_; (with_reducible refine (lex_All.calls k s ts e l c _ ?sideG A2.out).mono ?_); (case sideG => exact GL.out.below HB1.out); rintro e_ w3 ⟨v0, rfl, ho0, hb2⟩; refine ⟨_, rfl, ?_⟩; have n0 := Aside0.mk (blk_below HBs.out hb2); have n2 := Aside0.mk (Kd.R_lower ho0 (below_size HB1.out)); have n1 := Aside0.mk (below_step HB1.out hb2); clear HBs HB1 hb2 ho0 cs; have HBs := n0; have HB1 := n1; have HO := n2; clear n0 n1 n2)
    | ((with_reducible refine gate_dst (N := 4) rfl ?_); refine box_event ?hg (N := 4) ?hd (cs := #[.int .i64 0, .int .i64 0, .int .i64 0]) (t := 28) ?hr ?_; (case hd => rfl); (case hg => rfl); (case hr => first | (go_simp; done) | (go_simp; rfl)); intro b4 hg4 w4 hb4 hb2; have HNE := Aside0.mk (show bs ≠ b4 by rw [hg4]; exact Nat.ne_of_lt (blk_lt HBs.out)); have HE4 := Aside0.mk (show w.heap.size ≤ b4 by rw [hg4]; exact below_size HB1.out); have HX := Aside0.mk (show AX w w4 bs b4 s #[.int .i64 0, .int .i64 0, .int .i64 0] v0 ts from ⟨blk_below HBs.out hb2, hb4, Kd.R_below HO.out hb2, below_step HB1.out hb2⟩); clear HBs HB1 HO hb4 hb2 hg4; have q40 := (blk_cell HX.out.k4 0).trans (show _ = some (Value.int .i64 0) from rfl); have q41 := (blk_cell HX.out.k4 1).trans (show _ = some (Value.int .i64 0) from rfl); have q42 := (blk_cell HX.out.k4 2).trans (show _ = some (Value.int .i64 0) from rfl); have q43 := blk_frozen HX.out.k4 0; have q44 := blk_frozen HX.out.k4 1; have q45 := blk_frozen HX.out.k4 2))
  refine wp_gen (fun W_ => AX w W_ bs b4 s #[.int .i64 e, .int .i64 l, .int .i64 c] v0 ts) ?_ (fun w5 HX => ?_)
  · (with_reducible repeat (first | refine AX.drewN ?_ _ | refine AX.drew ?_)); refine AX.put4 (c4 := #[.int .i64 e, .int .i64 l, .int .i64 0]) ?_ HNE.out HE4.out 2 _; refine AX.put4 (c4 := #[.int .i64 e, .int .i64 0, .int .i64 0]) ?_ HNE.out HE4.out 1 _; refine AX.put4 (c4 := #[.int .i64 0, .int .i64 0, .int .i64 0]) ?_ HNE.out HE4.out 0 _; (with_reducible repeat (first | refine AX.drewN ?_ _ | refine AX.drew ?_)); exact HX.out
  clear h500 h500n q40 q41 q42 q43 q44 q45
  go_upto_region 9 with (fail)
  obtain ⟨b5, hb5⟩ : ∃ b_, w5.heap.size = b_ := ⟨_, rfl⟩
  simp only [hb5]
  obtain ⟨b6, hb6⟩ : ∃ b_, b5 + 1 = b_ := ⟨_, rfl⟩
  simp only [hb6]
  have FS_ : FS w bs b4 b5 b6 := ⟨by have := below_size HX.bl; omega, by have := blk_lt HX.ks; omega, by omega, by have := blk_lt HX.k4; omega⟩
  refine wp_gen (fun W_ => FX w W_ bs b4 b5 b6 s 0 #[.int .i64 e, .int .i64 l, .int .i64 c] v0 ts) ?_ (fun w6 HF => ?_)
  · refine ⟨(HX.below (below_alloc (Below.refl _ _) _)).below (below_alloc (Below.refl _ _) _), ?_, ?_⟩
    · rw [← hb5]; exact blk_below (blk_new _ _) (below_alloc (Below.refl _ _) _)
    · have hz : ∀ o : Obj, (w5.alloc o).heap.size = b6 := fun o => by rw [← hb6, ← hb5]; show (w5.heap.push o).size = _; rw [Array.size_push]
      rw [← hz]; exact blk_new _ _
  clear HX HNE HE4 hb5 hb6
  have r40 := (blk_cell HF.ax.k4 0).trans (show _ = some (Value.int .i64 e) from rfl); have r41 := (blk_cell HF.ax.k4 1).trans (show _ = some (Value.int .i64 l) from rfl); have r42 := (blk_cell HF.ax.k4 2).trans (show _ = some (Value.int .i64 c) from rfl)
  rcases HC.out with ⟨rfl, rfl, rfl, hat⟩ | ⟨he, rfl, hee, hl, hc⟩
  · clear HC
    have HAT := Aside0.mk hat; clear hat
    obtain ⟨Ao, co, eo⟩ := Kd.R_slice HF.ax.ho
    subst eo
    have HF0 := Aside0.mk HF; clear HF
    go_upto_region 11 with (fail)
    clear r40 r41 r42
    go_wp2
    go_loopg [51] (ts.length + 1) (fun kq v51 w' => ∃ (n a : Nat), v51 = .int .i64 (n : Int) ∧ Aside0 (At s ts n a ∧ n ≤ ts.length ∧ ts.length + 1 ≤ kq + n) ∧ Aside0 (FX w w' bs b4 b5 b6 s (a : Int) #[.int .i64 0, .int .i64 0, .int .i64 0] (.slice Ao ts.length co) ts))
    case atStart => exact ⟨0, 0, rfl, ⟨HAT.out, by omega, by omega⟩, HF0⟩
    case round =>
      clear HF0 HAT
      obtain ⟨n, a, rfl, HQ, HF1⟩ := hrel
      have HF := HF1.out; clear HF1
      cases gk with
      | zero => have := HQ.out; omega
      | succ k1 =>
        obtain ⟨b, t, hn, hb, hab, ht, hp, hrest⟩ := HQ.out.1.step
        obtain ⟨X, hX⟩ : ∃ X : Int, (n : Int) = X := ⟨_, rfl⟩
        simp only [hX]
        have HXn := Aside0.mk hX; clear hX
        have hx0 : 0 ≤ X := by have := HXn.out; omega
        have hx1 : X < (ts.length : Int) := by have := HXn.out; omega
        have cx : decide (X < (ts.length : Int)) = true := decide_eq_true hx1
        obtain ⟨kd, tx, num, ⟨tl, tc⟩⟩ := t
        have hrd : rd_T34 ts X = ⟨kd, tx, num, ⟨tl, tc⟩⟩ := by unfold rd_T34; rw [← HXn.out, Int.toNat_natCast]; exact ht
        obtain ⟨ad, ea, g0, g1, g2, g3, g4⟩ := at_T34 (Kd.R_reads' HF.ax.ho).2.2 X hx0 hx1
        cases ea
        rw [hrd] at g0 g1 g2 g3 g4
        have p1 := eq_true hx0; have q1 := eq_true hx1
        clear hx0 hx1
        have HB := Aside0.mk hb; have HAB := Aside0.mk hab; have HP := Aside0.mk hp; have HR := Aside0.mk hrest
        clear hb hab hp hrest hrd ht hn
        simp only at HP HR
        go_upto_region 14 with (first
          | ((with_reducible refine gate_dst (N := 9) rfl ?_); refine box_event ?hg (N := 9) ?hd (cs := #[.int .i64 0, .string (⟨#[]⟩ : ByteArray), .int .i64 0, .int .i64 0, .int .i64 0]) (t := 34) ?hr ?_; (case hd => rfl); (case hg => rfl); (case hr => first | (go_simp; done) | (go_simp; rfl)); intro g hg w9 hg9 hb9; have FT_ : FT w bs b4 b5 b6 g := ⟨by rw [hg]; exact below_size HF.ax.bl, by rw [hg]; exact Nat.ne_of_lt (blk_lt HF.ax.ks), by rw [hg]; exact Nat.ne_of_lt (blk_lt HF.ax.k4), by rw [hg]; exact Nat.ne_of_lt (blk_lt HF.kf), by rw [hg]; exact Nat.ne_of_lt (blk_lt HF.ka)⟩; have HY := Aside0.mk (show FY w w9 bs b4 b5 b6 g s (a : Int) #[.int .i64 0, .int .i64 0, .int .i64 0] (.slice (some ad) ts.length co) ts #[.int .i64 0, .string (⟨#[]⟩ : ByteArray), .int .i64 0, .int .i64 0, .int .i64 0] from ⟨HF.below hb9, hg9, Kd.R_below (Kd.R_elderB HF.ax.ho g (Nat.le_of_eq hg.symm)) hb9⟩); clear hg9 hb9 hg; have q90 := (blk_cell HY.out.k9 0).trans (show _ = some (Value.int .i64 0) from rfl); have q91 := (blk_cell HY.out.k9 1).trans (show _ = some (Value.string (⟨#[]⟩ : ByteArray)) from rfl); have q92 := (blk_cell HY.out.k9 2).trans (show _ = some (Value.int .i64 0) from rfl); have q93 := (blk_cell HY.out.k9 3).trans (show _ = some (Value.int .i64 0) from rfl); have q94 := (blk_cell HY.out.k9 4).trans (show _ = some (Value.int .i64 0) from rfl); have f90 := blk_frozen HY.out.k9 0; have f91 := blk_frozen HY.out.k9 1; have f92 := blk_frozen HY.out.k9 2; have f93 := blk_frozen HY.out.k9 3; have f94 := blk_frozen HY.out.k9 4))
        refine wp_gen (fun W_ => FY w W_ bs b4 b5 b6 g s (a : Int) #[.int .i64 0, .int .i64 0, .int .i64 0] (.slice (some ad) ts.length co) ts #[.int .i64 kd, .string tx, .int .i64 num, .int .i64 tl, .int .i64 tc]) ?_ (fun w10 HZ => ?_)
        · (with_reducible repeat (first | refine FY.drewN ?_ _ | refine FY.drew ?_)); refine FY.put9 (c9 := #[.int .i64 kd, .string tx, .int .i64 num, .int .i64 tl, .int .i64 0]) FT_ ?_ 4 _; refine FY.put9 (c9 := #[.int .i64 kd, .string tx, .int .i64 num, .int .i64 0, .int .i64 0]) FT_ ?_ 3 _; refine FY.put9 (c9 := #[.int .i64 kd, .string tx, .int .i64 0, .int .i64 0, .int .i64 0]) FT_ ?_ 2 _; refine FY.put9 (c9 := #[.int .i64 kd, .string (⟨#[]⟩ : ByteArray), .int .i64 0, .int .i64 0, .int .i64 0]) FT_ ?_ 1 _; refine FY.put9 (c9 := #[.int .i64 0, .string (⟨#[]⟩ : ByteArray), .int .i64 0, .int .i64 0, .int .i64 0]) FT_ ?_ 0 _; (with_reducible repeat (first | refine FY.drewN ?_ _ | refine FY.drew ?_)); exact HY.out
        clear HY HF g0 g1 g2 g3 g4 q90 q91 q92 q93 q94 f90 f91 f92 f93 f94
        go_wp2_with (first | (go_at_call 12; refine (gap_calls w _ b6 bs b5 s (by omega) FS_.e6 FS_.s6 FS_.f6 a b (by have := HAB.out; omega) HB.out HZ.fx.gx).mono ?_; rintro e_ w' ⟨rfl, hgx⟩))
        have HZ2 := HZ.go FS_ FT_ hgx
        clear hgx HZ
        obtain ⟨Y, hY⟩ : ∃ Y : Int, ((a + b : Nat) : Int) = Y := ⟨_, rfl⟩
        rw [hY] at HZ2
        have HYn := Aside0.mk hY; clear hY
        refine wp_gen (fun W_ => FY w W_ bs b4 b5 b6 g s Y #[.int .i64 0, .int .i64 0, .int .i64 0] (.slice (some ad) ts.length co) ts #[.int .i64 kd, .string tx, .int .i64 num, .int .i64 tl, .int .i64 tc]) (by (with_reducible repeat (first | refine FY.drewN ?_ _ | refine FY.drew ?_)); exact HZ2) (fun w11 HZ => ?_)
        clear HZ2
        have q90 := (blk_cell HZ.k9 0).trans (show _ = some (Value.int .i64 kd) from rfl); have q91 := (blk_cell HZ.k9 1).trans (show _ = some (Value.string tx) from rfl); have q93 := (blk_cell HZ.k9 3).trans (show _ = some (Value.int .i64 tl) from rfl); have q94 := (blk_cell HZ.k9 4).trans (show _ = some (Value.int .i64 tc) from rfl)
        have qs := (blk_cell HZ.fx.ax.ks 0).trans (show _ = some (Value.string s) from rfl); have qa := (blk_cell HZ.fx.ka 0).trans (show _ = some (Value.int .i64 Y) from rfl); have fa := blk_frozen HZ.fx.ka 0
        have APL := Aside0.mk (show palingslaw02_place.f 70000 s Y = some (tl, tc) by
          have h1 := place_eq s (by omega) 70000 (a + b) HAB.out (by have := HAB.out; omega)
          rw [← HP.out, HYn.out] at h1
          exact h1)
        refine start_ (n := 6) (S := fun w' => w'.cell? ⟨g, 3, none⟩ = some (.int .i64 tl) ∧ w'.cell? ⟨g, 4, none⟩ = some (.int .i64 tc) ∧ w'.cell? ⟨bs, 0, none⟩ = some (.string s) ∧ w'.cell? ⟨b6, 0, none⟩ = some (.int .i64 Y)) (ds := []) #[false, false, false, false, false, false] (by kernel_rfl) rfl rfl ⟨q93, q94, qs, qa⟩ (fun hHeld => ?_)
        clear q90 q91 q93 q94 qs qa fa
        replace HZ := HZ.drew
        generalize w11.drew = w12 at HZ hHeld ⊢
        refine pure_ (i := 0) (N := some 58) (v := ?_) (a' := ?_) #[true, false, false, false, false, false] rfl rfl (by kernel_rfl) (fun _ _ _ h => h) (Or.inl ⟨by rfl, ?_⟩) ?_ ?_
        rotate_left
        · intro w'
          go_simp
          with_reducible rfl
        rotate_left
        · simp only [Act.put, List.setIfInBounds_toArray, List.set_cons_zero, List.set_cons_succ, i64_w, i32_w]
          rfl
        refine take_ (i := 1) (N := some 59) (v := ?_) (a' := ?_) #[true, true, false, false, false, false] rfl rfl (by kernel_rfl) (fun _ _ _ h => h) (Or.inl ⟨by rfl, ?_⟩) hHeld ?_ ?_
        rotate_left
        · rintro w' ⟨s0, s1, s2, s3⟩
          go_simp
          with_reducible rfl
        rotate_left
        · simp only [Act.put, List.setIfInBounds_toArray, List.set_cons_zero, List.set_cons_succ, i64_w, i32_w]
          rfl
        refine take_ (i := 2) (N := some 60) (v := ?_) (a' := ?_) #[true, true, true, false, false, false] rfl rfl (by kernel_rfl) (fun _ _ _ h => h) (Or.inl ⟨by rfl, ?_⟩) hHeld ?_ ?_
        rotate_left
        · rintro w' ⟨s0, s1, s2, s3⟩
          go_simp
          with_reducible rfl
        rotate_left
        · simp only [Act.put, List.setIfInBounds_toArray, List.set_cons_zero, List.set_cons_succ, i64_w, i32_w]
          rfl
        refine take_ (i := 3) (N := some 61) (v := ?_) (a' := ?_) #[true, true, true, true, false, false] rfl rfl (by kernel_rfl) (fun _ _ _ h => h) (Or.inl ⟨by rfl, ?_⟩) hHeld ?_ ?_
        rotate_left
        · rintro w' ⟨s0, s1, s2, s3⟩
          go_simp
          with_reducible rfl
        rotate_left
        · simp only [Act.put, List.setIfInBounds_toArray, List.set_cons_zero, List.set_cons_succ, i64_w, i32_w]
          rfl
        refine one_ (i := 4) (N := some 62) #[true, true, true, true, true, false] rfl rfl (by kernel_rfl) (by decide) (fun K hK => ?_)
        refine goes_ Tryd.func13 (by kernel_rfl) rfl #[.string s, .int .i64 Y] (by rfl) rfl rfl (by (try simp only [List.map_toArray, List.map_cons, List.map_nil]); first | done | rfl | (simp only [List.length_drop, List.length_take]; rfl)) ?_
        with_reducible refine (palingslaw02_place.calls 70000 s Y tl tc _ APL.out).mono ?_
        rintro e_ w13 ⟨rfl, hb13⟩
        refine ⟨_, rfl, ?_⟩
        replace HZ := HZ.below hb13; clear hb13
        have q90 := (blk_cell HZ.k9 0).trans (show _ = some (Value.int .i64 kd) from rfl); have q91 := (blk_cell HZ.k9 1).trans (show _ = some (Value.string tx) from rfl); have q93 := (blk_cell HZ.k9 3).trans (show _ = some (Value.int .i64 tl) from rfl); have q94 := (blk_cell HZ.k9 4).trans (show _ = some (Value.int .i64 tc) from rfl)
        have qs := (blk_cell HZ.fx.ax.ks 0).trans (show _ = some (Value.string s) from rfl); have qa := (blk_cell HZ.fx.ka 0).trans (show _ = some (Value.int .i64 Y) from rfl); have fa := blk_frozen HZ.fx.ka 0
        refine hK.out _ _ ⟨q93, q94, qs, qa⟩ (fun hHeld => ?_)
        clear hK K
        refine norm_ (a' := ?_) ?_ ?_
        rotate_left
        · show Act.put _ (some 62) _ = _
          simp only [Act.put, List.setIfInBounds_toArray, List.set_cons_zero, List.set_cons_succ, i64_w, i32_w]
          rfl
        refine pure_ (i := 5) (N := some 63) (v := ?_) (a' := ?_) #[true, true, true, true, true, true] rfl rfl (by kernel_rfl) (fun _ _ _ h => h) (Or.inl ⟨by rfl, ?_⟩) ?_ ?_
        rotate_left
        · intro w'
          go_simp
          with_reducible rfl
        rotate_left
        · simp only [Act.put, List.setIfInBounds_toArray, List.set_cons_zero, List.set_cons_succ, i64_w, i32_w]
          rfl
        refine done_ (by kernel_rfl) ?_
        clear hHeld
        (try simp only [beq_self_eq_true, bne_self_eq_false, Bool.and_self, Bool.or_self, Bool.not_true, Bool.false_or, Bool.or_false, Bool.true_and])
        obtain ⟨Lm, hLm⟩ : ∃ L_ : Int, wrap64 ((ts.length : Int) - 1) = L_ := ⟨_, rfl⟩
        have hLv : Lm = (ts.length : Int) - 1 := by rw [← hLm, wrap_small]; all_goals (have := HXn.out; have := HQ.out; omega)
        have HLV := Aside0.mk hLv; clear hLv
        rcases HR.out with ⟨h1, h2, h3, h4⟩ | ⟨h1, h2, h3, h4, h5, h6⟩
        · have e1 : (X == Lm) = true := beq_iff_eq.mpr (by rw [HLV.out, ← HXn.out]; omega)
          have e1' : (X == (ts.length : Int) - 1) = true := beq_iff_eq.mpr (by rw [← HXn.out]; omega)
          have e2 : (kd == 0) = true := beq_iff_eq.mpr h2
          have e3 : (tx.toList == ([] : List UInt8)) = true := by rw [h3, ByteArray.toList_eq]; rfl
          have e4 : (Y == (s.size : Int)) = true := beq_iff_eq.mpr (by rw [← HYn.out, h4])
          clear h1 h2 h3 h4
          go_wp2
          go_ret
          exact ⟨rfl, by (with_reducible repeat (first | apply pw_below_drewN | apply below_drew1)); exact HZ.fx.ax.bl⟩
        · have e1 : (X == Lm) = false := beq_eq_false_iff_ne.mpr (by rw [HLV.out, ← HXn.out]; omega)
          have e1' : (X == (ts.length : Int) - 1) = false := beq_eq_false_iff_ne.mpr (by rw [← HXn.out]; omega)
          have H1 := Aside0.mk h1; have H3 := Aside0.mk h3; have H4 := Aside0.mk h4; have H5 := Aside0.mk h5; have H6 := Aside0.mk h6
          have e2 : (kd == 0) = false := beq_eq_false_iff_ne.mpr h2
          clear h1 h2 h3 h4 h5 h6
          obtain ⟨T, hT⟩ : ∃ T : Int, (tx.size : Int) = T := ⟨_, rfl⟩
          have HTn := Aside0.mk hT
          have e5 : (T == 0) = false := beq_eq_false_iff_ne.mpr (by rw [← hT]; have := H3.out; omega)
          obtain ⟨D, hD⟩ : ∃ D : Int, wrap64 ((s.size : Int) - Y) = D := ⟨_, rfl⟩
          have hDw : IntKind.i64.wrap ((s.size : Int) - Y) = D := (i64_w _).trans hD
          have hDv : D = (s.size : Int) - Y := by rw [← hD, wrap_small]; all_goals (have := HYn.out; have := HAB.out; omega)
          have e6 : decide (D < T) = false := decide_eq_false (by rw [hDv, ← hT]; have := H4.out; have := HYn.out; omega)
          obtain ⟨Z, hZ⟩ : ∃ Z : Int, wrap64 (Y + T) = Z := ⟨_, rfl⟩
          have hZw : IntKind.i64.wrap (Y + T) = Z := (i64_w _).trans hZ
          have hZv : ((a + b + tx.size : Nat) : Int) = Z := by rw [← hZ, wrap_small]; all_goals (have := HYn.out; have := HAB.out; have := H4.out; omega)
          have HZV := Aside0.mk hZv
          have p7 := eq_true (show (0 : Int) ≤ Y by have := HYn.out; omega); have p8 := eq_true (show Y ≤ Z by have := HYn.out; omega); have p9 := eq_true (show Z ≤ (s.size : Int) by have := H4.out; omega)
          have p7d : decide (0 ≤ Y) = true := decide_eq_true (of_eq_true p7); have p8d : decide (Y ≤ Z) = true := decide_eq_true (of_eq_true p8); have p9d : decide (Z ≤ (s.size : Int)) = true := decide_eq_true (of_eq_true p9)
          have hext : s.extract Y.toNat Z.toNat = tx := by rw [← hZv, ← HYn.out, Int.toNat_natCast, Int.toNat_natCast]; exact H5.out
          have e7 : (tx.toList != tx.toList) = false := bne_self_eq_false _
          have hw : wrap64 (X + 1) = X + 1 := by rw [wrap_small]; all_goals (have := HXn.out; have := HQ.out.2.1; omega)
          clear hDv hZv hD
          go_wp2
          go_quiet (fail)
          go_wp2
          go_roundg k1
          case measure => omega
          case rel =>
            refine ⟨n + 1, a + b + tx.size, ?_, ⟨H6.out, by have := H1.out; omega, by have := HQ.out; omega⟩, ⟨?_⟩⟩
            · rw [show ((n + 1 : Nat) : Int) = X + 1 by have := HXn.out; omega, hw]
            · rw [HZV.out]
              (with_reducible repeat (first | refine FX.drewN ?_ _ | refine FX.drew ?_))
              refine FX.put FS_ (a := Y) ?_ Z
              (with_reducible repeat (first | refine FX.drewN ?_ _ | refine FX.drew ?_))
              exact HZ.fx
  · clear HC
    obtain ⟨Ao, co, eo⟩ := Kd.R_slice HF.ax.ho
    subst eo
    have e0 : (e == 0) = false := beq_eq_false_iff_ne.mpr he
    have e1 : (e != 0) = true := bne_iff_ne.mpr he
    have e2 : decide (1 ≤ l) = true := decide_eq_true hl
    have e3 : decide (1 ≤ c) = true := decide_eq_true hc
    have e4 : ((([] : List S34).length : Int) == 0) = true := rfl
    clear he hl hc
    by_cases h10 : e = 10
    · have e5 : (e == 10) = true := beq_iff_eq.mpr h10
      clear hee h10
      go_wp2
      go_ret
      exact ⟨rfl, by (with_reducible repeat (first | apply pw_below_drewN | apply below_drew1)); exact HF.ax.bl⟩
    · have e5 : (e == 10) = false := beq_eq_false_iff_ne.mpr h10
      have e6 : (e == 11) = true := beq_iff_eq.mpr (hee.resolve_left h10)
      clear hee h10
      go_wp2
      go_ret
      exact ⟨rfl, by (with_reducible repeat (first | apply pw_below_drewN | apply below_drew1)); exact HF.ax.bl⟩

theorem any_long (s : ByteArray) (w : World) (hL : GLaid w) (hs : 500 < s.size) :
    Calls Tryd.prog 3 #[.string s] w fun e w' => e = .returned (.bool true) ∧ Below w.heap.size w w' := by
  have GL := Aside0.mk hL; clear hL
  have A1 := Aside0.mk (head_true 300000 (Nat.le_refl _))
  have h500 : decide ((500 : Int) < (s.size : Int)) = true := decide_eq_true (by omega)
  have h500n : decide (500 < s.size) = true := decide_eq_true hs
  go_enter Tryd.func3, Tryd.ntmps3
  go_wp2_with (first
    | ((with_reducible refine gate_dst (N := 1) rfl ?_); refine box_event ?hg (N := 1) ?hd (cs := #[.string s]) (t := 9) ?hr ?_; (case hd => rfl); (case hg => rfl); (case hr => first | (go_simp; done) | (go_simp; rfl)); intro bs hgs w1 hbs hb1; have HBs := Aside0.mk hbs; have HB1 := Aside0.mk hb1; clear hbs hb1 hgs)
    | ((with_reducible refine gate_callee (f := 9) rfl ?_); refine goesL_ (some 10) rfl rfl Tryd.func9 (by kernel_rfl) rfl #[] rfl (by (try simp only [List.map_toArray, List.map_cons, List.map_nil]); first | done | rfl) ?_; (with_reducible refine (palingslaw02_head.calls 300000 true _ ?sideG A1.out).mono ?_); (case sideG => exact GL.out.below HB1.out); rintro e_ w2 ⟨rfl, hb2⟩; refine ⟨_, rfl, ?_⟩; have n0 := Aside0.mk (blk_below HBs.out hb2); have n1 := Aside0.mk (below_step HB1.out hb2); clear HBs HB1 hb2; have HBs := n0; have HB1 := n1; clear n0 n1; have cs := (blk_cell HBs.out 0).trans (show _ = some (Value.string s) from rfl)))
  go_ret
  exact ⟨rfl, by (with_reducible repeat (first | apply pw_below_drewN | apply below_drew1)); exact HB1.out⟩

theorem any_walk (s : ByteArray) (w : World) (_ : s.size ≤ 140737488351232) (hL : laidMetH Tryd.prog lexLaid w) :
    Calls Tryd.prog 3 #[.string s] w fun e w' => e = .returned (.bool true) ∧ Below w.heap.size w w' := by
  have hG := of_laid hL
  rcases Nat.lt_or_ge 500 s.size with hs | hs
  · exact any_long s w hG hs
  · obtain ⟨ts, e, q, h⟩ := LexR.ex (By s).length (By s) (1, 1) (Nat.le_refl _)
    have ha := all_eq s (by omega) h 300000 (Nat.le_refl _)
    have hl := (again_len h).2
    rw [by_len] at hl
    by_cases he : e = 0
    · rw [if_pos he] at ha
      have hq : LexR (By s) (1, 1) ts 0 (0, 0) := by
        have hz : ∀ {r : List UInt8} {p : Int × Int} {ts : List S34} {e : Int} {q : Int × Int}, LexR r p ts e q → e = 0 → q = (0, 0) := by
          intro r p ts e q h
          induction h with
          | stop => intro _; rfl
          | err r p b e hb h => intro h0; rcases tokOf_err h with h | h <;> omega
          | tok _ _ _ _ _ _ _ _ _ _ _ ih => exact ih
        have := hz h he
        subst he this
        exact h
      exact any_walk0 s w hG ts 0 0 0 300000 (Nat.le_refl _) hs (by omega) ha (.inl ⟨rfl, rfl, rfl, ⟨Nat.zero_le _, by simpa [adv_nil] using hq⟩⟩)
    · rw [if_neg he] at ha
      obtain ⟨h1, h2, h3⟩ := lex_err h he 0 ⟨by decide, by decide, by decide, by decide⟩
      exact any_walk0 s w hG [] e q.1 q.2 300000 (Nat.le_refl _) hs (by simp) ha (.inr ⟨he, rfl, h1, h2, h3⟩)
end Go.Proofs.YtfljigegjhnidaaDoor.B
