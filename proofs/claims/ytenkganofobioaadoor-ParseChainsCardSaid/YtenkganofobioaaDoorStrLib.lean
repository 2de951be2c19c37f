/- The library's functions on strings, at this program: the shelf's contracts laid here (numbers as text, Join, Repeat), and strings.Builder as a part of memory. -/
import Derived.Test.YtenkganofobioaaDoorAstBase
import Derived.Shelf.Strconv.Itoa4
import Derived.Shelf.Strings.OnBuilder
import Derived.Shelf.Strings.Repeat
import Derived.Lib.ItoaMem
import Derived.Lib.Walk
import Derived.BigCall
import Derived.BigGuard
import Derived.OwnWalk
namespace Go.Proofs.YtenkganofobioaaDoor.B
open Go.Shelf Go.RowKit Go.Sort Go.Lib
set_option linter.unusedVariables false
set_option linter.unusedSimpArgs false
def layFmt_ren : Go.Shelf.Ren := ⟨fun | 173 => 27 | 246 => 48 | 283 => 63 | 284 => 64 | 285 => 65 | 286 => 66 | 129 => 77 | 317 => 76 | 318 => 78 | 319 => 79 | 320 => 80 | 337 => 87 | 338 => 88 | n => n, fun | 2 => 2 | 3 => 3 | 9 => 9 | 4 => 4 | 171 => 118 | 0 => 0 | 53 => 119 | 37 => 79 | 5 => 5 | 173 => 122 | 212 => 131 | 51 => 132 | 20 => 20 | 213 => 133 | 46 => 26 | 232 => 149 | 233 => 150 | n => n, fun | 17 => 3 | 18 => 6 | 19 => 7 | n => n⟩
theorem layFmt : Go.Proofs.LaysM.n173 Tryd.prog layFmt_ren := {
  mixed := by kernel_rfl,
  f129 := Tryd.func77.trans (congrArg some (by kernel_rfl)),
  f173 := Tryd.func27.trans (congrArg some (by kernel_rfl)),
  f246 := Tryd.func48.trans (congrArg some (by kernel_rfl)),
  f283 := Tryd.func63.trans (congrArg some (by kernel_rfl)),
  f284 := Tryd.func64.trans (congrArg some (by kernel_rfl)),
  f285 := Tryd.func65.trans (congrArg some (by kernel_rfl)),
  f286 := Tryd.func66.trans (congrArg some (by kernel_rfl)),
  f317 := Tryd.func76.trans (congrArg some (by kernel_rfl)),
  f318 := Tryd.func78.trans (congrArg some (by kernel_rfl)),
  f319 := Tryd.func79.trans (congrArg some (by kernel_rfl)),
  f320 := Tryd.func80.trans (congrArg some (by kernel_rfl)),
  f337 := Tryd.func87.trans (congrArg some (by kernel_rfl)),
  f338 := Tryd.func88.trans (congrArg some (by kernel_rfl)),
  t0 := Tryd.underlying0,
  a0 := Tryd.isAgg0,
  z0 := Tryd.sizeOf0,
  v0 := Tryd.zeroValue0,
  t2 := Tryd.underlying2,
  a2 := Tryd.isAgg2,
  z2 := Tryd.sizeOf2,
  v2 := Tryd.zeroValue2,
  t3 := Tryd.underlying3,
  a3 := Tryd.isAgg3,
  z3 := Tryd.sizeOf3,
  v3 := Tryd.zeroValue3,
  t4 := Tryd.underlying4,
  a4 := Tryd.isAgg4,
  z4 := Tryd.sizeOf4,
  v4 := Tryd.zeroValue4,
  t5 := Tryd.underlying5,
  a5 := Tryd.isAgg5,
  z5 := Tryd.sizeOf5,
  v5 := Tryd.zeroValue5,
  t9 := Tryd.underlying9,
  a9 := Tryd.isAgg9,
  z9 := Tryd.sizeOf9,
  v9 := Tryd.zeroValue9,
  t20 := Tryd.underlying20,
  a20 := Tryd.isAgg20,
  z20 := Tryd.sizeOf20,
  v20 := Tryd.zeroValue20,
  t37 := Tryd.underlying79,
  a37 := Tryd.isAgg79,
  z37 := Tryd.sizeOf79,
  v37 := Tryd.zeroValue79,
  t46 := Tryd.underlying26,
  a46 := Tryd.isAgg26,
  z46 := Tryd.sizeOf26,
  v46 := Tryd.zeroValue26,
  t51 := Tryd.underlying132,
  a51 := Tryd.isAgg132,
  z51 := Tryd.sizeOf132,
  v51 := Tryd.zeroValue132,
  t53 := Tryd.underlying119,
  a53 := Tryd.isAgg119,
  z53 := Tryd.sizeOf119,
  v53 := Tryd.zeroValue119,
  t171 := Tryd.underlying118,
  a171 := Tryd.isAgg118,
  z171 := Tryd.sizeOf118,
  v171 := Tryd.zeroValue118,
  t173 := Tryd.underlying122,
  a173 := Tryd.isAgg122,
  z173 := Tryd.sizeOf122,
  v173 := Tryd.zeroValue122,
  t212 := Tryd.underlying131,
  a212 := Tryd.isAgg131,
  z212 := Tryd.sizeOf131,
  v212 := Tryd.zeroValue131,
  t213 := Tryd.underlying133,
  a213 := Tryd.isAgg133,
  z213 := Tryd.sizeOf133,
  t232 := Tryd.underlying149,
  a232 := Tryd.isAgg149,
  z232 := Tryd.sizeOf149,
  v232 := Tryd.zeroValue149,
  t233 := Tryd.underlying150,
  a233 := Tryd.isAgg150,
  z233 := Tryd.sizeOf150,
  v233 := Tryd.zeroValue150,
  g17 := by kernel_rfl,
  g18 := by kernel_rfl,
  g19 := by kernel_rfl,
  i0 := by kernel_rfl,
  i2 := by kernel_rfl,
  i3 := by kernel_rfl,
  i4 := by kernel_rfl,
  i5 := by kernel_rfl,
  i9 := by kernel_rfl,
  i20 := by kernel_rfl,
  i37 := by kernel_rfl,
  i46 := by kernel_rfl,
  i51 := by kernel_rfl,
  i53 := by kernel_rfl,
  i171 := by kernel_rfl,
  i173 := by kernel_rfl,
  i212 := by kernel_rfl,
  i232 := by kernel_rfl,
  i233 := by kernel_rfl,
  m17 := by kernel_rfl,
  m18 := by kernel_rfl,
  m19 := by kernel_rfl }
def layItoa_ren : Go.Shelf.Ren := ⟨fun | 171 => 32 | 243 => 51 | 246 => 48 | 283 => 63 | 284 => 64 | 285 => 65 | 286 => 66 | 129 => 77 | 317 => 76 | 318 => 78 | 319 => 79 | 320 => 80 | 337 => 87 | 338 => 88 | n => n, fun | 3 => 3 | 9 => 9 | 2 => 2 | 4 => 4 | 171 => 118 | 0 => 0 | 53 => 119 | 37 => 79 | 5 => 5 | 173 => 122 | 212 => 131 | 51 => 132 | 20 => 20 | 213 => 133 | 46 => 26 | 232 => 149 | 233 => 150 | n => n, fun | 17 => 3 | 18 => 6 | 19 => 7 | n => n⟩
theorem layItoa : Go.Proofs.LaysM.n171 Tryd.prog layItoa_ren := {
  mixed := by kernel_rfl,
  f129 := Tryd.func77.trans (congrArg some (by kernel_rfl)),
  f171 := Tryd.func32.trans (congrArg some (by kernel_rfl)),
  f243 := Tryd.func51.trans (congrArg some (by kernel_rfl)),
  f246 := Tryd.func48.trans (congrArg some (by kernel_rfl)),
  f283 := Tryd.func63.trans (congrArg some (by kernel_rfl)),
  f284 := Tryd.func64.trans (congrArg some (by kernel_rfl)),
  f285 := Tryd.func65.trans (congrArg some (by kernel_rfl)),
  f286 := Tryd.func66.trans (congrArg some (by kernel_rfl)),
  f317 := Tryd.func76.trans (congrArg some (by kernel_rfl)),
  f318 := Tryd.func78.trans (congrArg some (by kernel_rfl)),
  f319 := Tryd.func79.trans (congrArg some (by kernel_rfl)),
  f320 := Tryd.func80.trans (congrArg some (by kernel_rfl)),
  f337 := Tryd.func87.trans (congrArg some (by kernel_rfl)),
  f338 := Tryd.func88.trans (congrArg some (by kernel_rfl)),
  t0 := Tryd.underlying0,
  a0 := Tryd.isAgg0,
  z0 := Tryd.sizeOf0,
  v0 := Tryd.zeroValue0,
  t2 := Tryd.underlying2,
  a2 := Tryd.isAgg2,
  z2 := Tryd.sizeOf2,
  v2 := Tryd.zeroValue2,
  t3 := Tryd.underlying3,
  a3 := Tryd.isAgg3,
  z3 := Tryd.sizeOf3,
  v3 := Tryd.zeroValue3,
  t4 := Tryd.underlying4,
  a4 := Tryd.isAgg4,
  z4 := Tryd.sizeOf4,
  v4 := Tryd.zeroValue4,
  t5 := Tryd.underlying5,
  a5 := Tryd.isAgg5,
  z5 := Tryd.sizeOf5,
  v5 := Tryd.zeroValue5,
  t9 := Tryd.underlying9,
  a9 := Tryd.isAgg9,
  z9 := Tryd.sizeOf9,
  v9 := Tryd.zeroValue9,
  t20 := Tryd.underlying20,
  a20 := Tryd.isAgg20,
  z20 := Tryd.sizeOf20,
  v20 := Tryd.zeroValue20,
  t37 := Tryd.underlying79,
  a37 := Tryd.isAgg79,
  z37 := Tryd.sizeOf79,
  v37 := Tryd.zeroValue79,
  t46 := Tryd.underlying26,
  a46 := Tryd.isAgg26,
  z46 := Tryd.sizeOf26,
  v46 := Tryd.zeroValue26,
  t51 := Tryd.underlying132,
  a51 := Tryd.isAgg132,
  z51 := Tryd.sizeOf132,
  v51 := Tryd.zeroValue132,
  t53 := Tryd.underlying119,
  a53 := Tryd.isAgg119,
  z53 := Tryd.sizeOf119,
  v53 := Tryd.zeroValue119,
  t171 := Tryd.underlying118,
  a171 := Tryd.isAgg118,
  z171 := Tryd.sizeOf118,
  v171 := Tryd.zeroValue118,
  t173 := Tryd.underlying122,
  a173 := Tryd.isAgg122,
  z173 := Tryd.sizeOf122,
  v173 := Tryd.zeroValue122,
  t212 := Tryd.underlying131,
  a212 := Tryd.isAgg131,
  z212 := Tryd.sizeOf131,
  v212 := Tryd.zeroValue131,
  t213 := Tryd.underlying133,
  a213 := Tryd.isAgg133,
  z213 := Tryd.sizeOf133,
  t232 := Tryd.underlying149,
  a232 := Tryd.isAgg149,
  z232 := Tryd.sizeOf149,
  v232 := Tryd.zeroValue149,
  t233 := Tryd.underlying150,
  a233 := Tryd.isAgg150,
  z233 := Tryd.sizeOf150,
  v233 := Tryd.zeroValue150,
  g17 := by kernel_rfl,
  g18 := by kernel_rfl,
  g19 := by kernel_rfl,
  i0 := by kernel_rfl,
  i2 := by kernel_rfl,
  i3 := by kernel_rfl,
  i4 := by kernel_rfl,
  i5 := by kernel_rfl,
  i9 := by kernel_rfl,
  i20 := by kernel_rfl,
  i37 := by kernel_rfl,
  i46 := by kernel_rfl,
  i51 := by kernel_rfl,
  i53 := by kernel_rfl,
  i171 := by kernel_rfl,
  i173 := by kernel_rfl,
  i212 := by kernel_rfl,
  i232 := by kernel_rfl,
  i233 := by kernel_rfl,
  m17 := by kernel_rfl,
  m18 := by kernel_rfl,
  m19 := by kernel_rfl }
def layJoin_ren : Go.Shelf.Ren := ⟨fun | 156 => 28 | 165 => 49 | 166 => 31 | 169 => 34 | 240 => 50 | 241 => 67 | 276 => 68 | 277 => 81 | n => n, fun | 31 => 38 | 9 => 9 | 3 => 3 | 4 => 4 | 0 => 0 | 20 => 20 | 72 => 88 | 76 => 91 | 70 => 86 | 37 => 79 | 75 => 90 | 127 => 111 | 164 => 124 | 5 => 5 | 80 => 56 | n => n, fun | n => n⟩
theorem layJoin : Go.Proofs.Lays.n156 Tryd.prog layJoin_ren := {
  mixed := by kernel_rfl,
  f156 := Tryd.func28.trans (congrArg some (by kernel_rfl)),
  f165 := Tryd.func49.trans (congrArg some (by kernel_rfl)),
  f166 := Tryd.func31.trans (congrArg some (by kernel_rfl)),
  f169 := Tryd.func34.trans (congrArg some (by kernel_rfl)),
  f240 := Tryd.func50.trans (congrArg some (by kernel_rfl)),
  f241 := Tryd.func67.trans (congrArg some (by kernel_rfl)),
  f276 := Tryd.func68.trans (congrArg some (by kernel_rfl)),
  f277 := Tryd.func81.trans (congrArg some (by kernel_rfl)),
  t0 := Tryd.underlying0,
  a0 := Tryd.isAgg0,
  z0 := Tryd.sizeOf0,
  v0 := Tryd.zeroValue0,
  t3 := Tryd.underlying3,
  a3 := Tryd.isAgg3,
  z3 := Tryd.sizeOf3,
  v3 := Tryd.zeroValue3,
  t4 := Tryd.underlying4,
  a4 := Tryd.isAgg4,
  z4 := Tryd.sizeOf4,
  v4 := Tryd.zeroValue4,
  t9 := Tryd.underlying9,
  a9 := Tryd.isAgg9,
  z9 := Tryd.sizeOf9,
  v9 := Tryd.zeroValue9,
  t20 := Tryd.underlying20,
  a20 := Tryd.isAgg20,
  z20 := Tryd.sizeOf20,
  v20 := Tryd.zeroValue20,
  t31 := Tryd.underlying38,
  a31 := Tryd.isAgg38,
  z31 := Tryd.sizeOf38,
  v31 := Tryd.zeroValue38,
  t37 := Tryd.underlying79,
  a37 := Tryd.isAgg79,
  z37 := Tryd.sizeOf79,
  v37 := Tryd.zeroValue79,
  t70 := Tryd.underlying86,
  a70 := Tryd.isAgg86,
  z70 := Tryd.sizeOf86,
  v70 := Tryd.zeroValue86,
  t72 := Tryd.underlying88,
  a72 := Tryd.isAgg88,
  z72 := Tryd.sizeOf88,
  v72 := Tryd.zeroValue88,
  t75 := Tryd.underlying90,
  a75 := Tryd.isAgg90,
  z75 := Tryd.sizeOf90,
  v75 := Tryd.zeroValue90,
  t76 := Tryd.underlying91,
  a76 := Tryd.isAgg91,
  z76 := Tryd.sizeOf91,
  v76 := Tryd.zeroValue91,
  t127 := Tryd.underlying111,
  a127 := Tryd.isAgg111,
  z127 := Tryd.sizeOf111,
  v127 := Tryd.zeroValue111,
  t164 := Tryd.underlying124,
  a164 := Tryd.isAgg124,
  z164 := Tryd.sizeOf124,
  v164 := Tryd.zeroValue124 }
def layRepeat_ren : Go.Shelf.Ren := ⟨fun | 105 => 69 | 212 => 82 | 99 => 58 | 165 => 49 | 166 => 31 | 170 => 83 | 169 => 34 | 263 => 89 | 264 => 90 | 206 => 72 | 240 => 50 | 241 => 67 | 276 => 68 | 277 => 81 | n => n, fun | 9 => 9 | 3 => 3 | 4 => 4 | 20 => 20 | 0 => 0 | 46 => 26 | 109 => 137 | 5 => 5 | 72 => 88 | 76 => 91 | 51 => 132 | 146 => 142 | 53 => 119 | 148 => 144 | 70 => 86 | 37 => 79 | 75 => 90 | 127 => 111 | 164 => 124 | 80 => 56 | n => n, fun | n => n⟩
theorem layRepeat : Go.Proofs.Lays.n105 Tryd.prog layRepeat_ren := {
  mixed := by kernel_rfl,
  f99 := Tryd.func58.trans (congrArg some (by kernel_rfl)),
  f105 := Tryd.func69.trans (congrArg some (by kernel_rfl)),
  f165 := Tryd.func49.trans (congrArg some (by kernel_rfl)),
  f166 := Tryd.func31.trans (congrArg some (by kernel_rfl)),
  f169 := Tryd.func34.trans (congrArg some (by kernel_rfl)),
  f170 := Tryd.func83.trans (congrArg some (by kernel_rfl)),
  f206 := Tryd.func72.trans (congrArg some (by kernel_rfl)),
  f212 := Tryd.func82.trans (congrArg some (by kernel_rfl)),
  f240 := Tryd.func50.trans (congrArg some (by kernel_rfl)),
  f241 := Tryd.func67.trans (congrArg some (by kernel_rfl)),
  f263 := Tryd.func89.trans (congrArg some (by kernel_rfl)),
  f264 := Tryd.func90.trans (congrArg some (by kernel_rfl)),
  f276 := Tryd.func68.trans (congrArg some (by kernel_rfl)),
  f277 := Tryd.func81.trans (congrArg some (by kernel_rfl)),
  t0 := Tryd.underlying0,
  a0 := Tryd.isAgg0,
  z0 := Tryd.sizeOf0,
  v0 := Tryd.zeroValue0,
  t3 := Tryd.underlying3,
  a3 := Tryd.isAgg3,
  z3 := Tryd.sizeOf3,
  v3 := Tryd.zeroValue3,
  t4 := Tryd.underlying4,
  a4 := Tryd.isAgg4,
  z4 := Tryd.sizeOf4,
  v4 := Tryd.zeroValue4,
  t5 := Tryd.underlying5,
  a5 := Tryd.isAgg5,
  z5 := Tryd.sizeOf5,
  v5 := Tryd.zeroValue5,
  t9 := Tryd.underlying9,
  a9 := Tryd.isAgg9,
  z9 := Tryd.sizeOf9,
  v9 := Tryd.zeroValue9,
  t20 := Tryd.underlying20,
  a20 := Tryd.isAgg20,
  z20 := Tryd.sizeOf20,
  v20 := Tryd.zeroValue20,
  t37 := Tryd.underlying79,
  a37 := Tryd.isAgg79,
  z37 := Tryd.sizeOf79,
  v37 := Tryd.zeroValue79,
  t46 := Tryd.underlying26,
  a46 := Tryd.isAgg26,
  z46 := Tryd.sizeOf26,
  v46 := Tryd.zeroValue26,
  t51 := Tryd.underlying132,
  a51 := Tryd.isAgg132,
  z51 := Tryd.sizeOf132,
  v51 := Tryd.zeroValue132,
  t53 := Tryd.underlying119,
  a53 := Tryd.isAgg119,
  z53 := Tryd.sizeOf119,
  v53 := Tryd.zeroValue119,
  t70 := Tryd.underlying86,
  a70 := Tryd.isAgg86,
  z70 := Tryd.sizeOf86,
  v70 := Tryd.zeroValue86,
  t72 := Tryd.underlying88,
  a72 := Tryd.isAgg88,
  z72 := Tryd.sizeOf88,
  v72 := Tryd.zeroValue88,
  t75 := Tryd.underlying90,
  a75 := Tryd.isAgg90,
  z75 := Tryd.sizeOf90,
  v75 := Tryd.zeroValue90,
  t76 := Tryd.underlying91,
  a76 := Tryd.isAgg91,
  z76 := Tryd.sizeOf91,
  v76 := Tryd.zeroValue91,
  t109 := Tryd.underlying137,
  a109 := Tryd.isAgg137,
  z109 := Tryd.sizeOf137,
  v109 := Tryd.zeroValue137,
  t127 := Tryd.underlying111,
  a127 := Tryd.isAgg111,
  z127 := Tryd.sizeOf111,
  v127 := Tryd.zeroValue111,
  t146 := Tryd.underlying142,
  a146 := Tryd.isAgg142,
  z146 := Tryd.sizeOf142,
  v146 := Tryd.zeroValue142,
  t148 := Tryd.underlying144,
  a148 := Tryd.isAgg144,
  z148 := Tryd.sizeOf144,
  v148 := Tryd.zeroValue144,
  t164 := Tryd.underlying124,
  a164 := Tryd.isAgg124,
  z164 := Tryd.sizeOf124,
  v164 := Tryd.zeroValue124 }

theorem below_grow (w : World) (q : Nat) (os : Array Obj) : Below w.heap.size w (grow (w.drewN q) os) :=
  ⟨rfl, rfl, rfl, by show w.heap.size ≤ ((w.drewN q).heap ++ os).size; rw [Array.size_append]; exact Nat.le_add_right _ _, fun i hi => by
    show ((w.drewN q).heap ++ os)[i]? = _
    rw [Array.getElem?_append_left (by exact hi)]
    rfl⟩
/-- strconv.FormatInt at base 10. -/
theorem fmt_at (n : Int) (h0 : -9223372036854775808 ≤ n) (h1 : n ≤ 9223372036854775807) (w : World) (hG : PowIs w) :
    Calls Tryd.prog 27 #[.int .i64 n, .int .i64 10] w fun e w' => e = .returned (.string (bs (Lib.itoa n))) ∧ Below w.heap.size w w' := by
  refine (show Calls Tryd.prog 27 #[.int .i64 n, .int .i64 10] w (fun e w' => e = .returned (.string ⟨(Lib.itoa n).toArray⟩) ∧ ∃ k os, w' = grow (w.drewN k) os) from Any.strconv_FormatInt_10 layFmt n h0 h1 w hG).mono ?_
  rintro e w' ⟨rfl, k, os, rfl⟩
  exact ⟨rfl, below_grow _ _ _⟩
/-- strconv.Itoa. -/
theorem itoa_at (n : Int) (h0 : -9223372036854775808 ≤ n) (h1 : n ≤ 9223372036854775807) (w : World) (hG : PowIs w) :
    Calls Tryd.prog 32 #[.int .i64 n] w fun e w' => e = .returned (.string (bs (Lib.itoa n))) ∧ Below w.heap.size w w' := by
  refine (show Calls Tryd.prog 32 #[.int .i64 n] w (fun e w' => e = .returned (.string ⟨(Lib.itoa n).toArray⟩) ∧ ∃ k os, w' = grow (w.drewN k) os) from Any.strconv_Itoa layItoa n h0 h1 w hG).mono ?_
  rintro e w' ⟨rfl, k, os, rfl⟩
  exact ⟨rfl, below_grow _ _ _⟩
theorem xJoin : Builder.Extra Tryd.prog layJoin_ren := { sizeBuilder := by kernel_rfl, liesBuilder := by kernel_rfl, t5 := Tryd.underlying5, a5 := Tryd.isAgg5, z5 := Tryd.sizeOf5, v5 := Tryd.zeroValue5, infoByte := by kernel_rfl, cellsByte := by kernel_rfl, sizeByte := by kernel_rfl, neB5 := by decide }
theorem xRepeat : Builder.Extra Tryd.prog layRepeat_ren := { sizeBuilder := by kernel_rfl, liesBuilder := by kernel_rfl, t5 := Tryd.underlying5, a5 := Tryd.isAgg5, z5 := Tryd.sizeOf5, v5 := Tryd.zeroValue5, infoByte := by kernel_rfl, cellsByte := by kernel_rfl, sizeByte := by kernel_rfl, neB5 := by decide }
/-- strings.Repeat. -/
theorem repeat_at (l : List UInt8) (c : Nat) (hl : l.length * c ≤ 140737488355328) (hc : c ≤ 9223372036854775807) (w : World) :
    Calls Tryd.prog 69 #[.string (bs l), .int .i64 c] w fun e w' => e = .returned (.string (bs (Lib.repeatL l c))) ∧ Below w.heap.size w w' := by
  refine (show Calls Tryd.prog 69 #[.string (bs l), .int .i64 c] w (fun e w' => e = .returned (.string ⟨(Lib.repeatL (bs l).data.toList c).toArray⟩) ∧ Below w.heap.size w w') from Any.strings_Repeat layRepeat xRepeat (bs l) c w hc (by rw [bs_size]; exact hl)).mono ?_
  rintro e w' ⟨rfl, hb⟩
  exact ⟨rfl, hb⟩
section
variable {P : Program}
theorem nil_string_run (w : World) (t u ty e : TypeId) (i : TypeInfo) (ht : P.underlying t = some (.slice e)) (hu : P.underlying u = some .string) (hi : P.info? e = some i) (hsize : i.size = 1) (s : ByteArray) (hm : s.size = 0) : (Builtin.append_ #[t, u] ty #[.slice none 0 0, .string s]).run P w = .ok (.slice none 0 0) w := by
  have hf := run_firstCells_string (P := P) w 1 s
  have hn : strCells s = [] := List.eq_nil_of_length_eq_zero (by rw [strCells_length]; exact hm)
  rw [hm] at hf
  simp [Builtin.append_, run_underlying ht, run_underlying hu, sizeOf, typeInfo, hi, hsize, Builtin.lenOf, hm, hf]
/-- append(b, s...): and where the new row lies. -/
theorem run_append_str_at (w : World) (t u ty e : TypeId) (i : TypeInfo) (ht : P.underlying t = some (.slice e)) (hu : P.underlying u = some .string) (hi : P.info? e = some i) (hz : i.zero = some (.int .u8 0)) (hsize : i.size = 1) (hby : i.bytes = 1)
    (v : Value) (n : Nat) (xs : List Value) (hown : w.ownsRow 0 e 1 v n xs) (s : ByteArray) (h63 : n + s.size ≤ maxLen) (hbytes : n + s.size ≤ 140737488355328) :
    ∃ v' w', (Builtin.append_ #[t, u] ty #[v, .string s]).run P w = .ok v' w' ∧ w'.ownsRow 0 e 1 v' (n + s.size) (xs ++ strCells s) ∧ w.grownBy w' v.ownBlock ∧ ∀ k, v'.ownBlock = some k → v.ownBlock = some k ∨ w.heap.size ≤ k := by
  obtain ⟨v', w', hr, h2, h3, h4⟩ := run_append_own_string (P := P) w 0 t u ty e i ht hu hi hz hsize hby v n xs hown s h63 hbytes (Nat.zero_le _)
  refine ⟨v', w', hr, h2, h3, fun k hk => ?_⟩
  have hxl : xs.length = n := by simpa using hown.1
  have hsmall : n + s.size ≤ 9223372036854775807 := by simp only [maxLen] at h63; omega
  rcases hown.2 with ⟨rfl, rfl⟩ | ⟨g, cap, cur, rfl, hbg, hg, hnc, hcm, hcs, htake⟩
  · by_cases hm : s.size = 0
    · rw [nil_string_run w t u ty e i ht hu hi hsize s hm] at hr
      cases hr
      simp [Value.ownBlock] at hk
    · have hr2 := run_append_nil_string (P := P) w t u ty e i (.int .u8 0) ht hu hi hz s (by omega) (by omega) (by rw [hby]; omega)
      rw [hr2] at hr
      cases hr
      right
      simp [Value.ownBlock] at hk
      omega
  · by_cases hroom : n + s.size ≤ cap
    · have hcs' : cur.size = cap := by simpa using hcs
      have hr2 := run_append_room_string (P := P) w t u ty e i ht hu hi hsize g n cap cur hg s hroom (by omega)
      rw [hr2] at hr
      cases hr
      left
      simpa [Value.ownBlock] using hk
    · have holds : ∀ j u, xs[j]? = some u → w.cell? ((⟨g, 0, none⟩ : Addr).add j) = some u := hown.cells (g := g) rfl
      have hr2 := run_append_grow_string (P := P) w t u ty e i (.int .u8 0) ht hu hi hz ⟨g, 0, none⟩ n cap xs (by rw [hsize]; simpa using hxl) holds s (by omega) (by omega) (by rw [hby]; exact growslice_fits (by omega) (by omega))
      rw [hr2] at hr
      cases hr
      right
      simp [Value.ownBlock] at hk
      omega
theorem wpList_append_str_at {ops : Array Oper} {rest : List Oper} {o : Oper} {a : Act} {Q : Exit → Act → World → Prop} (w : World) (hgd : o.guard = none) (sl x : Operand) (t u : TypeId)
    (ho : o.op = .call { callee := .builtin .append, args := #[sl, x], argTypes := #[t, u] })
    (e : TypeId) (i : TypeInfo) (ht : P.underlying t = some (.slice e)) (hu : P.underlying u = some .string) (hi : P.info? e = some i) (hz : i.zero = some (.int .u8 0)) (hsize : i.size = 1) (hby : i.bytes = 1)
    (v : Value) (n : Nat) (xs : List Value) (hs : a.eval sl = v) (hown : w.ownsRow 0 e 1 v n xs) (s : ByteArray) (hx : a.eval x = .string s)
    (h63 : n + s.size ≤ maxLen) (hbytes : n + s.size ≤ 140737488355328)
    (h : ∀ v' w', w'.ownsRow 0 e 1 v' (n + s.size) (xs ++ strCells s) → w.grownBy w' v.ownBlock → (∀ k, v'.ownBlock = some k → v.ownBlock = some k ∨ w.heap.size ≤ k) → wpList P ops Q rest (a.put o.dst v') w') : wpList P ops Q (o :: rest) a w := by
  refine wpList_plain hgd fun K hK => ?_
  obtain ⟨v', w', hr, h2, h3, h4⟩ := run_append_str_at (P := P) w t u o.type e i ht hu hi hz hsize hby v n xs hown s h63 hbytes
  unfold Oper.wp execOp
  simp only [ho, resolve, invoke, builtin, Sem.run_bind, Sem.run_pure, Result.andThen_ok, List.map_toArray, List.map_cons, List.map_nil, hs, hx, hr]
  exact hK _ _ (h v' w' h2 h3 h4)
end
section
open Go.Proofs.YtenkganofobioaaDoor.Mine Go.Proofs.YtenkganofobioaaDoor.Sep Go.Proofs.YtenkganofobioaaDoorW.PrintWords Go.Proofs.YtenkganofobioaaDoorW.PrintLast Go.Proofs.YtenkganofobioaaDoorW.PrintMore
/-- strings.Join of a row of strings. -/
theorem join_at {w : World} {A : Option Addr} {c : Nat} {xs : List ByteArray} (hC : Kd.C Kd.string w A xs.length xs) (hcap : xs.length ≤ c) (sep : List UInt8) (hN : xs.length ≤ 140737488355328) (hlen : (Lib.join (xs.map (·.data.toList)) sep).length ≤ 140737488355328) :
    Calls Tryd.prog 28 #[.slice A xs.length c, .string (bs sep)] w fun e w' => e = .returned (.string (bs (Lib.join (xs.map (·.data.toList)) sep))) ∧ Below w.heap.size w w' := by
  by_cases h0 : xs.length = 0
  · obtain rfl : xs = [] := List.length_eq_zero_iff.1 h0
    refine (show Calls Tryd.prog 28 #[.slice A 0 c, .string (bs sep)] w _ from Any.strings_Join_none layJoin xJoin A c (bs sep) w).mono ?_
    rintro e w' ⟨rfl, rfl⟩
    exact ⟨rfl, Below.refl _ _⟩
  · have hcell : ∀ (j : Nat) x, xs[j]? = some x → ∃ ad, A = some ad ∧ w.cell? (ad.add j) = some (.string x) := by
      intro j x hj
      have hlt := (List.getElem?_eq_some_iff.1 hj).1
      obtain ⟨ad, cs, e, _, hK, hc⟩ := Kd.C_get hC (default : ByteArray) (j : Int) (by omega) (by omega)
      refine ⟨ad, e, ?_⟩
      have := hc 0
      obtain rfl : cs = [.string (xs.getD (j : Int).toNat default)] := hK
      have h2 := this _ rfl
      rw [show ((j : Int).toNat * Kd.string.sz + 0) = j by simp [Kd.string, Kd.scalar]] at h2
      rw [h2, List.getD_eq_getElem?_getD, Int.toNat_natCast, hj]
      rfl
    obtain ⟨ad, rfl, h1⟩ := hcell 0 xs[0] (List.getElem?_eq_getElem (by omega))
    obtain ⟨bk, o, sp⟩ := ad
    have hadd : (⟨bk, o, sp⟩ : Addr).add 0 = ⟨bk, o, sp⟩ := by simp [Addr.add]
    rw [hadd] at h1
    have hbk : bk < w.heap.size ∧ sp = none := by
      unfold World.cell? at h1
      simp only at h1
      split at h1
      · rename_i hh
        refine ⟨(Array.getElem?_eq_some_iff.1 hh).1, ?_⟩
        cases sp with
        | none => rfl
        | some _ => simp at h1
      · cases h1
    obtain ⟨hbk, rfl⟩ := hbk
    refine (show Calls Tryd.prog 28 #[.slice (some ⟨bk, o, none⟩) xs.length c, .string (bs sep)] w (fun e w' => e = .returned (.string ⟨(Lib.join (xs.map (·.data.toList)) (bs sep).data.toList).toArray⟩) ∧ Below w.heap.size w w') from Any.strings_Join layJoin xJoin bk o c xs (bs sep) w (fun j x hj => by
      obtain ⟨ad, e, h2⟩ := hcell j x hj
      cases e
      rw [show (⟨bk, o, none⟩ : Addr).add j = ⟨bk, o + j, none⟩ by unfold Addr.add; split <;> simp_all] at h2
      exact h2) hbk hN hcap hlen).mono ?_
    rintro e w' ⟨rfl, hb⟩
    exact ⟨rfl, hb⟩
/-- A strings.Builder, with its buffer. -/
def bld (b : Nat) (l : List UInt8) : Chunk where
  is := fun w s => s b ∧ ∃ p v, (p = Value.pointer none ∨ p = Value.pointer (some ⟨b, 0, none⟩)) ∧ w.heap[b]? = some (.cells #[p, v] 88 (0, 0)) ∧ w.ownsRow 0 5 1 v l.length (Lib.byteCells l) ∧ v.ownBlock ≠ some b ∧ ∀ k, v.ownBlock = some k → s k
  move := by
    rintro w w1 s ⟨h0, p, v, hp, hb, ho, hne, hs⟩ hm
    exact ⟨h0, p, v, hp, (hm _ h0 (blk_lt hb)).trans hb, own_move ho (fun k hk => hm k (hs k hk) (own_lt ho k hk)), hne, hs⟩
  bound := by
    rintro w s ⟨h0, p, v, hp, hb, ho, hne, hs⟩
    exact ⟨⟨h0, blk_lt hb⟩, p, v, hp, hb, ho, hne, fun k hk => ⟨hs k hk, own_lt ho k hk⟩⟩
  mono := by
    rintro w s s' ⟨h0, p, v, hp, hb, ho, hne, hs⟩ h
    exact ⟨h _ h0, p, v, hp, hb, ho, hne, fun k hk => h _ (hs k hk)⟩
section
variable {W0 w : World} {L : List Chunk}
theorem Sat.builder {g : Nat} (HS : Sat W0 w L) (i : Nat) (hi : L[i]? = some (Sep.blk g 88 #[.pointer none, .slice none 0 0])) : Sat W0 w (L.set i (bld g [])) :=
  HS.upd i hi fun s h => ⟨⟨rfl, rfl, rfl, Nat.le_refl _, fun _ _ _ => rfl⟩, .inl h.2, _, _, .inl rfl, h.1, World.ownsRow_nil _ _ _ _, by simp [Value.ownBlock], fun k hk => by simp [Value.ownBlock] at hk⟩
set_option maxRecDepth 100000 in
set_option maxHeartbeats 2000000 in
/-- WriteString. -/
theorem write_calls {b : Nat} {l : List UInt8} (i : Nat) (hi : L[i]? = some (bld b l)) (s : List UInt8) (hlen : l.length + s.length ≤ 140737488355328) (HS : Sat W0 w L) :
    Calls Tryd.prog 31 #[.pointer (some ⟨b, 0, none⟩), .string (bs s)] w fun e w' => e = .returned (.tuple #[.int .i64 s.length, .nilIface]) ∧ Sat W0 w' (L.set i (bld b (l ++ s))) := by
  obtain ⟨S, ⟨hSb, p, v, hp, hb, hown, hne, hSv⟩, hlt, hput⟩ := HS.open i hi
  obtain ⟨i0, hinfo, hz0, hz1, hz2⟩ := info_parts xJoin.infoByte
  have HCC : Calls Tryd.prog 50 #[.pointer (some ⟨b, 0, none⟩)] w fun e w1 => e = .returned (.tuple #[]) ∧ But w w1 (fun k => k = b) ∧ w1.heap[b]? = some (.cells #[.pointer (some ⟨b, 0, none⟩), v] 88 (0, 0)) ∧ w1.ownsRow 0 5 1 v l.length (Lib.byteCells l) := by
    rcases hp with rfl | rfl
    · refine (show Calls Tryd.prog 50 #[.pointer (some ⟨b, 0, none⟩)] w _ from Any.Builder_copyCheck_fresh { layJoin with } xJoin.toX72 b w (by rw [Lib.cell_of_heap hb]; rfl) (by simp [World.shape?, hb]; rfl) (Lib.frozen_of_heap hb 0)).mono ?_
      rintro e w1 ⟨rfl, rfl⟩
      refine ⟨rfl, ⟨rfl, rfl, rfl, by simp [World.setCell], fun k _ hk => Below.heap_setCell _ _ _ _ (fun e => hk (by simpa using e))⟩, ?_, ?_⟩
      · simp [World.setCell, Array.getElem?_modify, hb]
      · exact own_move hown (fun k hk => Below.heap_setCell _ _ _ _ (fun e => hne (by rw [hk]; simpa using e)))
    · refine (show Calls Tryd.prog 50 #[.pointer (some ⟨b, 0, none⟩)] w _ from Any.Builder_copyCheck_used { layJoin with } xJoin.toX72 b w (by rw [Lib.cell_of_heap hb]; rfl)).mono ?_
      rintro e w1 ⟨rfl, rfl⟩
      exact ⟨rfl, ⟨rfl, rfl, rfl, Nat.le_refl _, fun _ _ _ => rfl⟩, hb, hown⟩
  have HP := Aside0.mk hput
  have HI := Aside0.mk hinfo
  have HZ := Aside0.mk (And.intro hz0 (And.intro hz1 hz2))
  clear hb hown hput hinfo hz0 hz1 hz2 hp
  go_enter Tryd.func31, Tryd.ntmps31
  go_wp2_with (go_at_call 50; refine HCC.mono ?_)
  rintro e w1 ⟨rfl, bw, hb, hown⟩
  have c0 : w1.cell? ⟨b, 0, none⟩ = some (.pointer (some ⟨b, 0, none⟩)) := by rw [Lib.cell_of_heap hb]; rfl
  have c1 : w1.cell? ⟨b, 1, none⟩ = some v := by rw [Lib.cell_of_heap hb]; rfl
  have hbl : (Lib.byteCells l).length = l.length := by simp [Lib.byteCells]
  go_wp2_with (at_builtin; go_loud (refine wpList_append_str_at (P := Tryd.prog) _ rfl _ _ 79 9 rfl 5 i0 Tryd.underlying79 Tryd.underlying9 HI.out HZ.out.1 HZ.out.2.1 HZ.out.2.2 _ _ _ rfl hown (bs s) rfl ?c3 ?c4 ?_))
  case c3 => unfold maxLen; rw [bs_size]; omega
  case c4 => rw [bs_size]; omega
  intro v' w2 hown' hgrow hat
  have hblt : b < w1.heap.size := blk_lt hb
  have hb2 : w2.heap[b]? = some (.cells #[.pointer (some ⟨b, 0, none⟩), v] 88 (0, 0)) := by
    rw [hgrow.block b hblt (fun e => hne e.symm)]
    exact hb
  have d0 : w2.cell? ⟨b, 0, none⟩ = some (.pointer (some ⟨b, 0, none⟩)) := by rw [Lib.cell_of_heap hb2]; rfl
  have d1 : w2.cell? ⟨b, 1, none⟩ = some v := by rw [Lib.cell_of_heap hb2]; rfl
  have f1 : w2.frozen? ⟨b, 1, none⟩ = false := Lib.frozen_of_heap hb2 1
  obtain ⟨ao, n', cap, rfl⟩ : ∃ ao n' cap, v' = .slice ao n' cap := by
    rcases hown'.2 with ⟨hv, _⟩ | ⟨g, cap, cur, hv, _⟩
    · exact ⟨_, _, _, hv⟩
    · exact ⟨_, _, _, hv⟩
  rw [bs_size] at hown'
  have HOW := Aside0.mk hown'
  have HG := Aside0.mk hgrow
  have HAT := Aside0.mk hat
  have HB2 := Aside0.mk hb2
  have hsz : ((bs s).size : Int) = (s.length : Int) := by rw [bs_size]
  clear hown' hgrow hb2 c0 c1 hat
  go_wp2
  go_ret2
  have hgrow := HG.out
  have hown' := HOW.out
  refine ⟨rfl, HP.out _ _ ⟨hgrow.os.trans bw.os, hgrow.tape.trans bw.tape, hgrow.output.trans bw.output, by have := hgrow.size; have := bw.size; simp [World.setCell]; omega, fun k hk hs => ?_⟩ ?_⟩
  · have hkb : k ≠ b := fun e => hs (e ▸ hSb)
    have h1 := bw.block k hk hkb
    have h2 := hgrow.block k (Nat.lt_of_lt_of_le hk bw.size) (fun e => hs (hSv k e.symm))
    exact (Below.heap_setCell _ _ _ _ (by simpa using hkb)).trans (h2.trans h1)
  · have hne' : (Value.slice ao n' cap).ownBlock ≠ some b := by
      exact Lib.ownBlock_ne hown' HB2.out (by decide)
    refine ⟨.inl hSb, _, _, .inr rfl, ?_, ?_, hne', fun k hk => ?_⟩
    · simp [World.setCell, Array.getElem?_modify, HB2.out]
    · have : (l ++ s).length = l.length + s.length := List.length_append
      rw [this, show Lib.byteCells (l ++ s) = Lib.byteCells l ++ Lib.strCells (bs s) from by simp [Lib.byteCells, Lib.strCells, bs]]
      exact own_move hown' (fun k hk => Below.heap_setCell _ _ _ _ (fun e => hne' (by rw [hk]; simpa using e)))
    · rcases HAT.out k hk with h | h
      · exact .inl (hSv k h)
      · exact .inr (Nat.le_trans bw.size h)
theorem Sat.bldAt {b : Nat} {l : List UInt8} (i : Nat) (hi : L[i]? = some (bld b l)) (j : Nat) (hj : L[j]? = some (old W0)) (hij : i ≠ j) (HS : Sat W0 w L) : Lib.IsBuilder 88 5 W0.heap.size b (Lib.byteCells l) w := by
  obtain ⟨h1, h2, h3, h4, F, hF, hD⟩ := HS
  obtain ⟨h0, p, v, hp, hb, ho, hne, hs⟩ := hF i _ hi
  have hfar : ∀ k, F i k → W0.heap.size ≤ k := fun k hk => by
    rcases Nat.lt_or_ge k W0.heap.size with h | h
    · exact absurd (hD i j k hk ((hF j _ hj) k h).1) hij
    · exact h
  have hown : w.ownsRow W0.heap.size 5 1 v (Lib.byteCells l).length (Lib.byteCells l) := by
    rw [show (Lib.byteCells l).length = l.length by simp [Lib.byteCells]]
    refine ⟨ho.1, ?_⟩
    rcases ho.2 with h | ⟨g, cap, cur, rfl, _, r⟩
    · exact .inl h
    · exact .inr ⟨g, cap, cur, rfl, hfar g (hs g (by simp [Value.ownBlock])), r⟩
  rcases hp with rfl | rfl
  · exact .inl ⟨hfar b h0, v, hb, hown, hne⟩
  · exact .inr ⟨hfar b h0, v, hb, hown, hne⟩
/-- String, at a function's end. -/
theorem string_calls {b : Nat} {l : List UInt8} (i : Nat) (hi : L[i]? = some (bld b l)) (j : Nat) (hj : L[j]? = some (old W0)) (hij : i ≠ j) (HS : Sat W0 w L) :
    Calls Tryd.prog 34 #[.pointer (some ⟨b, 0, none⟩)] w fun e w' => e = .returned (.string (bs l)) ∧ Below W0.heap.size W0 w' := by
  have hb := HS.old j hj
  refine (show Calls Tryd.prog 34 #[.pointer (some ⟨b, 0, none⟩)] w (fun e w' => e = .returned (.string ⟨l.toArray⟩) ∧ Below W0.heap.size w w') from Any.Builder_String_any { layJoin with } xJoin W0.heap.size b l w (Sat.bldAt i hi j hj hij HS) hb.size).mono ?_
  rintro e w' ⟨rfl, h⟩
  exact ⟨rfl, hb.trans h⟩
end
end
end Go.Proofs.YtenkganofobioaaDoor.B
