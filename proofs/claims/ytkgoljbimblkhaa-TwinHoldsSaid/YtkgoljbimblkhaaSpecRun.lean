/- Deeds one by one on an image: the contract of spec.Run. -/
import Derived.Test.YtkgoljbimblkhaaSpecP
import Derived.Test.YtkgoljbimblkhaaSpecOpen
import Derived.OwnWalk
namespace Go.Proofs.Ytkgoljbimblkhaa.B
open Go.RowKit Go.Proofs.Ytkgoljbimblkhaa.Mine Go.Proofs.Ytkgoljbimblkhaa.Sep Go.Proofs.YtkgoljbimblkhaaW.PrintWords Go.Proofs.YtkgoljbimblkhaaW.PrintLast Go.Proofs.YtkgoljbimblkhaaW.PrintMore
set_option linter.unusedVariables false
set_option linter.unusedSimpArgs false
def runM (code : List S56) (sites : List Int) (win : Int) : SM → List (Int × Int) → SM × List S66
  | X, [] => (X, [])
  | X, d :: r => ((runM code sites win (doM code sites win X d.1 d.2).1 r).1, (doM code sites win X d.1 d.2).2 ++ (runM code sites win (doM code sites win X d.1 d.2).1 r).2)
theorem runM_snoc (code : List S56) (sites : List Int) (win : Int) : ∀ (l : List (Int × Int)) (X : SM) (d : Int × Int), runM code sites win X (l ++ [d]) = ((doM code sites win (runM code sites win X l).1 d.1 d.2).1, (runM code sites win X l).2 ++ (doM code sites win (runM code sites win X l).1 d.1 d.2).2)
  | [], X, d => by simp [runM]
  | e :: r, X, d => by rw [List.cons_append, runM, runM_snoc code sites win r, runM]; simp [List.append_assoc]
theorem stepOut_len (k : Bool) (code : List S56) (X : SM) : (stepOut k code X).length ≤ 3 := stepF_len _ code X.s _
theorem honest_len (code : List S56) (X : SM) : (honestF code X).2.length ≤ 4 := by
  have := stepOut_len false code X
  unfold honestF honestT
  split
  · split
    · simp; omega
    · simp; omega
  · split <;> (simp; omega)
theorem doM_len (code : List S56) (sites : List Int) (win : Int) (X : SM) (d t : Int) : (doM code sites win X d t).2.length ≤ 4 := by
  have hn : ∀ Y, (doN code sites win Y d t).2.length ≤ 4 := fun Y => by
    unfold doN
    split
    · exact honest_len code Y
    split
    · split
      · simp
      · exact honest_len code _
    split
    · unfold wrongF
      split
      · exact honest_len code Y
      · have := stepOut_len false code Y; simp only; omega
    split
    · unfold staleF
      split
      · exact honest_len code Y
      · have := stepOut_len true code (guessF win (aheadP code Y) Y); simp only; omega
    · exact honest_len code Y
  unfold doM
  split
  · simp
  split
  · simp
  · exact hn _
theorem new_inv (code : List S56) (st me : Int) (arrs : List S60) (ins : List (List Int)) : Inv code (beginS st, startF ins arrs me) 0 (newX st me arrs ins) :=
  ⟨rfl, rfl, fun x hx => (by cases hx), Nat.le_refl _, Nat.le_refl _, Int.le_refl _, Int.le_refl _, fun q hq => (by cases hq), rfl⟩
theorem runM_good (code : List S56) (sites : List Int) (win : Int) (p : St × List Int) : ∀ (l : List (Int × Int)) (X : SM) (N : Nat), Inv code p N X → N + l.length ≤ 1000000 → Inv code p (N + l.length) (runM code sites win X l).1
  | [], X, N, h, _ => h
  | d :: r, X, N, h, hl => by
    rw [List.length_cons] at hl
    rw [runM, List.length_cons, show N + (r.length + 1) = (N + 1) + r.length by omega]
    exact runM_good code sites win p r _ (N + 1) (doM_good h (by omega) sites win d.1 d.2).1 (by omega)
theorem runM_len (code : List S56) (sites : List Int) (win : Int) : ∀ (l : List (Int × Int)) (X : SM), (runM code sites win X l).2.length ≤ 4 * l.length
  | [], X => Nat.le_refl _
  | d :: r, X => by
    rw [runM, List.length_append, List.length_cons]
    have := doM_len code sites win X d.1 d.2
    have := runM_len code sites win r (doM code sites win X d.1 d.2).1
    omega
section
variable {W0 w : World} {L : List Chunk} {Ac : Option Addr} {cc : Nat} {code : List S56} {Aa : Option Addr} {ca : Nat} {arrs : List S60} {st me win : Int} {Ai : Option Addr} {ci : Nat} {ins : List (List Int)} {As : Option Addr} {cs : Nat} {script : List (Int × Int)}
/-- What is known of the image and the inputs. -/
structure Img (L : List Chunk) (W0 : World) (Ac : Option Addr) (cc : Nat) (code : List S56) (Aa : Option Addr) (ca : Nat) (arrs : List S60) (Ai : Option Addr) (ci : Nat) (ins : List (List Int)) : Prop where
  c : ∀ w, Sat W0 w L → Kd.C k56 w Ac code.length code
  cc : code.length ≤ cc
  a : ∀ w, Sat W0 w L → Kd.C k60 w Aa arrs.length arrs
  ca : arrs.length ≤ ca
  i : ∀ w, Sat W0 w L → Kd.C (Kd.slice 2 (Kd.int .i64)) w Ai ins.length ins
theorem Img.cons {W0 : World} {L : List Chunk} {Ac : Option Addr} {cc : Nat} {code : List S56} {Aa : Option Addr} {ca : Nat} {arrs : List S60} {Ai : Option Addr} {ci : Nat} {ins : List (List Int)} (h : Img L W0 Ac cc code Aa ca arrs Ai ci ins) (c : Chunk) : Img (c :: L) W0 Ac cc code Aa ca arrs Ai ci ins :=
  ⟨fun w hs => h.c w hs.tail, h.cc, fun w hs => h.a w hs.tail, h.ca, fun w hs => h.i w hs.tail⟩
/-- What a right image tells. -/
structure Fine (code : List S56) (arrs : List S60) (st me : Int) (ins : List (List Int)) : Prop where
  right : ∃ k, image_Image_Right.f k code arrs st me = some true
  lies : ∀ a ∈ arrs, Lies me a
  al : arrs.length ≤ 1000
  m0 : 0 ≤ me
  m1 : me ≤ 1048576
  cl : code.length ≤ 100000
  fit : ∀ i ∈ code, Fit i

set_option maxRecDepth 100000 in
set_option maxHeartbeats 2000000 in
theorem srun_bad (hI : Img L W0 Ac cc code Aa ca arrs Ai ci ins) {k : Nat} (hr : Aside0 (image_Image_Right.f k code arrs st me = some false)) (HS : Sat W0 w L) :
    Calls Try.prog 13 #[.agg #[.slice Ac code.length cc, .slice Aa arrs.length ca, .int .i64 st, .int .i64 me], .slice Ai ins.length ci, .int .i64 win, .slice As script.length cs] w fun e w' => e = .returned (.tuple #[.pointer none, .slice none 0 0, .int .i64 1]) ∧ Sat W0 w' L := by
  go_enter Try.func13, Try.ntmps13
  go_upto_region 1 with ((with_reducible refine gate_dst (N := 4) rfl ?_); go_must (refine ev_box HS rfl (N := 4) rfl (cs := #[.slice Ac code.length cc, .slice Aa arrs.length ca, .int .i64 st, .int .i64 me]) (t := 25) ?hrun ?_); (case hrun => first | (go_simp; done) | (go_simp; rfl)); clear HS; intro gb w HS)
  have cb := HS.cell 0 rfl
  go_wp2_with (first | ((with_reducible refine gate_load (ty := 25) (p := 4) rfl ?_); go_must (refine ev_load HS 0 rfl rfl 25 (.tmp 4) rfl (N := 17) rfl rfl _ Try.underlying25 rfl (by kernel_rfl) ?_)) | (go_at_call 21; refine (new_bad (hI.cons _).c hI.cc (hI.cons _).a hI.ca hr HS).mono ?_; rintro e w_ ⟨rfl, HS_⟩; clear HS; have HS := HS_; clear HS_))
  go_ret3
  exact ⟨rfl, HS.tail⟩

set_option maxRecDepth 100000 in
set_option maxHeartbeats 2000000 in
theorem srun_window (hI : Img L W0 Ac cc code Aa ca arrs Ai ci ins) (hF : Fine code arrs st me ins) (hw : win < 1 ∨ 1000 < win) (HS : Sat W0 w L) :
    Calls Try.prog 13 #[.agg #[.slice Ac code.length cc, .slice Aa arrs.length ca, .int .i64 st, .int .i64 me], .slice Ai ins.length ci, .int .i64 win, .slice As script.length cs] w fun e w' => e = .returned (.tuple #[.pointer none, .slice none 0 0, .int .i64 1]) ∧ Sat W0 w' L := by
  go_enter Try.func13, Try.ntmps13
  go_upto_region 1 with ((with_reducible refine gate_dst (N := 4) rfl ?_); go_must (refine ev_box HS rfl (N := 4) rfl (cs := #[.slice Ac code.length cc, .slice Aa arrs.length ca, .int .i64 st, .int .i64 me]) (t := 25) ?hrun ?_); (case hrun => first | (go_simp; done) | (go_simp; rfl)); clear HS; intro gb w HS)
  have cb := HS.cell 0 rfl
  go_wp2_with (first | ((with_reducible refine gate_load (ty := 25) (p := 4) rfl ?_); go_must (refine ev_load HS 0 rfl rfl 25 (.tmp 4) rfl (N := 17) rfl rfl _ Try.underlying25 rfl (by kernel_rfl) ?_)) | (go_at_call 21; refine (new_window (hI.cons _).c hI.cc (hI.cons _).a hI.ca (Aside0.mk hF.right.choose_spec) hw HS).mono ?_; rintro e w_ ⟨rfl, HS_⟩; clear HS; have HS := HS_; clear HS_))
  go_ret3
  exact ⟨rfl, HS.tail⟩

set_option maxRecDepth 100000 in
set_option maxHeartbeats 2000000 in
theorem srun_calls (hI : Img L W0 Ac cc code Aa ca arrs Ai ci ins) (hF : Fine code arrs st me ins) (w0 : 1 ≤ win) (w1 : win ≤ 1000) (hScr : ∀ w, Sat W0 w L → Kd.C kDeed w As script.length script) (hsl : script.length ≤ 1000) (HS : Sat W0 w L) :
    Calls Try.prog 13 #[.agg #[.slice Ac code.length cc, .slice Aa arrs.length ca, .int .i64 st, .int .i64 me], .slice Ai ins.length ci, .int .i64 win, .slice As script.length cs] w fun e w' => ∃ g Am cm At ct v, e = .returned (.tuple #[.pointer (some ⟨g, 0, none⟩), v, .int .i64 0]) ∧
      Sat W0 w' (mch g Am me.toNat cm (.slice Ac code.length cc) (.slice At (sitesF code 0).length ct) win (runM code (sitesF code 0) win (newX st me arrs ins) script).1 :: row k66 66 v (runM code (sitesF code 0) win (newX st me arrs ins) script).2 :: row IW 3 (.slice At (sitesF code 0).length ct) (sitesF code 0) :: L) := by
  go_enter Try.func13, Try.ntmps13
  go_upto_region 1 with ((with_reducible refine gate_dst (N := 4) rfl ?_); go_must (refine ev_box HS rfl (N := 4) rfl (cs := #[.slice Ac code.length cc, .slice Aa arrs.length ca, .int .i64 st, .int .i64 me]) (t := 25) ?hrun ?_); (case hrun => first | (go_simp; done) | (go_simp; rfl)); clear HS; intro gb w HS)
  have cb := HS.cell 0 rfl
  go_upto_region 2 with (first | ((with_reducible refine gate_load (ty := 25) (p := 4) rfl ?_); go_must (refine ev_load HS 0 rfl rfl 25 (.tmp 4) rfl (N := 17) rfl rfl _ Try.underlying25 rfl (by kernel_rfl) ?_)) | (go_at_call 21; refine (new_calls (hI.cons _).c hI.cc (hI.cons _).a hI.ca (hI.cons _).i (Aside0.mk hF.right.choose_spec) hF.lies hF.al hF.m0 hF.m1 hF.cl w0 w1 HS).mono ?_; rintro e w_ ⟨g, Am, cm, At, ct, rfl, HS_⟩; clear HS cb; have HS := HS_; clear HS_))
  replace HS := (HS.erase 2).nil k66 66
  replace HS : Sat W0 w_ (mch g Am me.toNat cm (.slice Ac code.length cc) (.slice At (sitesF code 0).length ct) win (newX st me arrs ins) :: row k66 66 (.slice none 0 0) [] :: row IW 3 (.slice At (sitesF code 0).length ct) (sitesF code 0) :: L) := HS.swap
  go_wp2
  go_loopg [13, 28] (script.length + 1) (fun kq v13 v28 w' => ∃ (i : Nat), v28 = .int .i64 (i : Int) ∧ Aside0 (i ≤ script.length ∧ script.length + 1 ≤ kq + i) ∧
      Aside0 (Sat W0 w' (mch g Am me.toNat cm (.slice Ac code.length cc) (.slice At (sitesF code 0).length ct) win (runM code (sitesF code 0) win (newX st me arrs ins) (script.take i)).1 :: row k66 66 v13 (runM code (sitesF code 0) win (newX st me arrs ins) (script.take i)).2 :: row IW 3 (.slice At (sitesF code 0).length ct) (sitesF code 0) :: L)))
  case atStart => exact ⟨0, rfl, ⟨by omega, by omega⟩, ⟨HS⟩⟩
  case round =>
    clear HS
    obtain ⟨i, rfl, HJ, HS'⟩ := hrel
    have HS := HS'.out
    clear HS'
    cases gk with
    | zero => have := HJ.out; omega
    | succ k1 =>
      by_cases hk : i < script.length
      · obtain ⟨I, hI_⟩ : ∃ I : Int, (i : Int) = I := ⟨_, rfl⟩
        have p1 : 0 ≤ I := by omega
        have q1 : I < (script.length : Int) := by omega
        have c1_ : decide (I < (script.length : Int)) = true := decide_eq_true q1
        obtain ⟨ad, rfl, x0, x1⟩ := at_D (hScr wr HS.tail.tail.tail) I p1 q1
        have hrd : rd_D script I = script[i] := by rw [← hI_]; unfold rd_D; rw [Int.toNat_natCast, List.getD_eq_getElem?_getD, List.getElem?_eq_getElem hk]; rfl
        obtain ⟨d, hd⟩ : ∃ d, d = rd_D script I := ⟨_, rfl⟩
        have HT := Aside0.mk (show runM code (sitesF code 0) win (newX st me arrs ins) (script.take (i + 1)) = _ from by
          rw [List.take_succ_eq_append_getElem hk, ← hrd, ← hd, runM_snoc])
        have hinv := runM_good code (sitesF code 0) win (beginS st, startF ins arrs me) (script.take i) (newX st me arrs ins) 0 (new_inv code st me arrs ins) (by rw [List.length_take]; omega)
        have hlen := runM_len code (sitesF code 0) win (script.take i) (newX st me arrs ins)
        rw [List.length_take, Nat.min_eq_left (by omega), Nat.zero_add] at hinv
        rw [List.length_take, Nat.min_eq_left (by omega)] at hlen
        obtain ⟨R, hR⟩ : ∃ R, R = runM code (sitesF code 0) win (newX st me arrs ins) (script.take i) := ⟨_, rfl⟩
        rw [← hR] at HT hinv hlen HS
        have HIV := Aside0.mk (And.intro hinv hlen)
        rw [← hd] at x0 x1
        rw [hI_]
        have HII := Aside0.mk hI_
        have hwi : wrap64 (I + 1) = I + 1 := w64 _ (by omega) (by omega)
        have HIK := Aside0.mk hk
        clear hd hrd hI_ hk hinv hlen hR
        have r1 := eq_true p1
        have r2 := eq_true q1
        obtain ⟨d1, d2⟩ := d
        dsimp only at x0 x1
        go_upto_region 8 with (first | ((with_reducible refine gate_dst (N := 15) rfl ?_); go_must (refine ev_box HS rfl (N := 15) rfl (cs := #[.int .i64 0, .int .i64 0]) (t := 72) ?hrun ?_); (case hrun => first | (go_simp; done) | (go_simp; rfl)); clear HS; intro gd w HS) | ((with_reducible refine gate_store (t := 72) (p := 15) rfl ?_); go_must (refine ev_store HS 0 rfl rfl 72 (.tmp 15) (.tmp 31) rfl rfl rfl [.int .i64 d1, .int .i64 d2] ?hx (by kernel_rfl) (by rfl) ?h1 ?_); (case hx => first | rfl | (go_simp; done)); (case h1 => simp [Value.oneCell']); clear HS; intro w HS))
        replace HS := HS.swap
        obtain ⟨Ao, co, rfl⟩ := HS.slice 2 rfl
        have HDD := Aside0.mk (deed_calls (sites := (sitesF code 0)) (deed := d1) (tq := d2) (X := R.1) (fun w h => hI.c w h.tail.tail.tail) (fun w h => h.C 2 rfl) hF.fit (by have := sitesF_len code 0; have := hF.cl; omega) (by have := HIV.out.1.cnt; have := HIK.out; omega) (by have := HIV.out.1.len; have := HIK.out; omega) HS)
        have HDL := Aside0.mk (doM_len code (sitesF code 0) win R.1 d1 d2)
        obtain ⟨Q, hQ⟩ : ∃ Q, Q = doM code (sitesF code 0) win R.1 d1 d2 := ⟨_, rfl⟩
        rw [← hQ] at HDD HDL
        have HQ := Aside0.mk hQ
        clear hQ
        go_upto_region 9 with (first | ((with_reducible refine gate_load (ty := 72) (p := 15) rfl ?_); go_must (refine ev_load HS 1 rfl rfl 72 (.tmp 15) rfl (N := 34) rfl rfl _ Try.underlying72 rfl (by kernel_rfl) ?_)) | (go_at_call 22; refine HDD.out.mono ?_; rintro e w_ ⟨v, rfl, HS_⟩; clear HS HDD; have HS := HS_; clear HS_; obtain ⟨Ap, cp, rfl⟩ := HS.slice 0 rfl) | (((with_reducible refine gate_builtin (b := .append) (xs := #[.tmp 32, .tmp 35]) rfl ?_); go_must (refine ev_append k66 HS 3 (.tmp 32) (.tmp 35) 31 66 (.agg #[.int .i64 0, .int .i64 0, .int .i64 0]) 24 rfl (HS.C 0 rfl) (fun _ _ h => h) rfl rfl rfl rfl Try.underlying31 info66 rfl (by decide) (by omega) ((by have := HDL.out; have := HIV.out.2; have := HIK.out; simp; omega)) ?_); clear HS; intro vo w HS)))
        go_wp2
        go_roundg k1
        case measure => omega
        case rel =>
          refine ⟨i + 1, by rw [← HII.out]; rfl, ⟨by have := HIK.out; omega, by have := HJ.out; omega⟩, ⟨?_⟩⟩
          rw [HT.out, ← HQ.out]
          exact (HS.tail).erase 1
      · have hkk : i = script.length := by have := HJ.out.1; omega
        subst hkk
        have hkb : decide (script.length < script.length) = false := decide_eq_false (Nat.lt_irrefl _)
        rw [List.take_length] at HS
        go_wp2
        go_ret3
        exact ⟨g, Am, cm, At, ct, _, rfl, HS⟩

end
end Go.Proofs.Ytkgoljbimblkhaa.B
