/- LexPieces: names, numbers, words and marks in any order, with whatever blanks between, are read back, each at its place. -/
import Derived.Test.YtfljigegjhnidaaDoorPiecesPure
import Derived.Test.YtfljigegjhnidaaDoorLexPiecesW
import Derived.Test.YtfljigegjhnidaaDoorOpen
namespace Go.Proofs.YtfljigegjhnidaaDoor.B
open Go.RowKit Go.Proofs.YtfljigegjhnidaaDoor.Mine Go.Proofs.YtfljigegjhnidaaDoorW.PrintWords Go.Proofs.YtfljigegjhnidaaDoorW.PrintLast Go.Proofs.YtfljigegjhnidaaDoorW.PrintMore
set_option linter.unusedVariables false
set_option linter.unusedSimpArgs false

theorem pieces_l1 (ts : List S34) (hn : ts.length ≤ 70000) : ∀ (m j k : Nat), j + m = ts.length → m < k → palingslaw02_LexPieces.l1 k ts ts (ts.length : Int) j = some true := by
  intro m
  induction m with
  | zero =>
    intro j k hj hk
    obtain ⟨k, rfl⟩ : ∃ i, k = i + 1 := ⟨k - 1, by omega⟩
    unfold palingslaw02_LexPieces.l1
    rw [if_neg (by omega)]
  | succ m ih =>
    intro j k hj hk
    obtain ⟨k, rfl⟩ : ∃ i, k = i + 1 := ⟨k - 1, by omega⟩
    unfold palingslaw02_LexPieces.l1
    rw [if_pos (by omega), if_pos (by omega), if_pos (by omega), if_pos (by omega), if_neg (by simp), wrap_small (n := (j : Int) + 1) (by omega) (by omega)]
    exact ih (j + 1) k (by omega) (by omega)

theorem i64_low (n : Int) (b : Nat) (hb : b = 2 ∨ b = 16) : Go.bits .and .i64 n ((2 ^ b - 1 : Nat) : Int) = n % ((2 ^ b : Nat) : Int) := by
  have h127 : (BitVec.ofInt 64 ((2 ^ b - 1 : Nat) : Int)).toNat = 2 ^ b - 1 := by rcases hb with rfl | rfl <;> decide
  have key : (BitVec.ofInt 64 n &&& BitVec.ofInt 64 ((2 ^ b - 1 : Nat) : Int)).toNat = (n % ((2 ^ 64 : Nat) : Int)).toNat % 2 ^ b := by
    rw [BitVec.toNat_and, BitVec.toNat_ofInt, h127, Nat.and_two_pow_sub_one_eq_mod]
  show IntKind.i64.wrap ((BitVec.ofInt 64 n &&& BitVec.ofInt 64 ((2 ^ b - 1 : Nat) : Int)).toNat : Nat) = n % ((2 ^ b : Nat) : Int)
  rw [key, IntKind.wrap_i64]
  rcases hb with rfl | rfl <;> omega
theorem i64_and3 (n : Int) : Go.bits .and .i64 n 3 = n % 4 := i64_low n 2 (.inl rfl)
theorem i64_and65535 (n : Int) : Go.bits .and .i64 n 65535 = n % 65536 := i64_low n 16 (.inr rfl)

/-- A piece's number, gap and token. -/
def pcN (x : S45) : Nat := (x.f1 % 65536).toNat
def pcGap (x : S45) : List UInt8 := gapList.getD ((x.f2 % 18446744073709551616) % 5).toNat []
def pcTok (x : S45) : Int × List UInt8 × Int :=
  if x.f0 % 4 = 0 then (1, 120 :: (Lib.decDigits (pcN x) ++ [95, 89]), 0)
  else if x.f0 % 4 = 1 then (2, Lib.decDigits (pcN x), (pcN x : Int))
  else if x.f0 % 4 = 2 then (3, wordList.getD (pcN x % 11) [], 0)
  else (4, markList.getD (pcN x % 28) [], 0)
theorem getD_mem {α : Type} {l : List α} {i : Nat} {d : α} (h : i < l.length) : l.getD i d ∈ l := by
  rw [List.getD_eq_getElem?_getD, List.getElem?_eq_getElem h]; exact List.getElem_mem h
theorem pcGap_mem (x : S45) : pcGap x ∈ gapList := getD_mem (by show _ < 5; omega)
theorem pcTok_whole (x : S45) : Whole (pcTok x) := by
  have hn : pcN x < 65536 := by unfold pcN; omega
  unfold pcTok
  split
  · exact whole_name _ hn
  · split
    · exact whole_num _ hn
    · split
      · exact whole_word _ (getD_mem (by show _ < 11; omega))
      · exact whole_mark _ (getD_mem (by show _ < 28; omega))
def pc (x : S45) : Pc := (pcGap x, pcTok x)

abbrev gapLit : List ByteArray := [(⟨#[32]⟩ : ByteArray), (⟨#[10]⟩ : ByteArray), (⟨#[9, 32, 13, 10]⟩ : ByteArray), (⟨#[32, 47, 47, 32, 110, 111, 32, 116, 111, 107, 101, 110, 32, 38, 38, 32, 53, 10]⟩ : ByteArray), (⟨#[10, 47, 47, 10]⟩ : ByteArray)]
theorem gap_j (x : S45) : ∃ j : Int, wrap64 (Int.tmod (IntKind.u64.wrap x.f2) 5) = j ∧ 0 ≤ j ∧ j < 5 ∧ By (rdOf ByteArray.empty gapLit j) = pcGap x := by
  have h0 : 0 ≤ x.f2 % 18446744073709551616 := Int.emod_nonneg _ (by decide)
  have hj : wrap64 (Int.tmod (IntKind.u64.wrap x.f2) 5) = (x.f2 % 18446744073709551616) % 5 := by
    rw [Go.IntKind.wrap_u64, Int.tmod_eq_emod_of_nonneg h0, wrap_small (by omega) (by omega)]
  refine ⟨_, hj, by omega, by omega, ?_⟩
  unfold pcGap rdOf
  generalize hg : ((x.f2 % 18446744073709551616) % 5).toNat = g
  have hg5 : g < 5 := by omega
  match g, hg5 with
  | 0, _ => rfl
  | 1, _ => rfl
  | 2, _ => rfl
  | 3, _ => rfl
  | 4, _ => rfl
/-- The gap, the place, the token: what each kind of piece has alike. -/
theorem tail_eq (x3 t g : ByteArray) (k : Nat) (j : Int) (xl : Nat) (hj0 : 0 ≤ j) (hj5 : j < 5) (hg : rdOf ByteArray.empty gapLit j = g) (hs : x3.size + g.size ≤ 60000) (ht : t.size ≤ 100) (hk : 70000 ≤ k) (hx : xl < 1000)
    (C : List ByteArray → Int × Int → Option Bool) :
    ((some gapLit).bind fun y => (if 0 ≤ j then (if j < (y.length : Int) then (if x3.size + (rdOf ByteArray.empty y j).size ≤ 9223372036854775807 then ((palingslaw02_place.f k (x3 ++ (rdOf ByteArray.empty y j)) ((x3 ++ (rdOf ByteArray.empty y j)).size : Int)).bind fun bt => (if (x3 ++ (rdOf ByteArray.empty y j)).size + t.size ≤ 9223372036854775807 then (if xl < 2932031007402 then C y bt else none) else none)) else none) else none) else none)) = C gapLit (adv (1, 1) (By (x3 ++ g))) := by
  subst hg
  have hsz : (x3 ++ rdOf ByteArray.empty gapLit j).size = x3.size + (rdOf ByteArray.empty gapLit j).size := ByteArray.size_append
  rw [Option.bind_some, if_pos hj0, if_pos (show j < (gapLit.length : Int) from (by have : (gapLit.length : Int) = 5 := rfl; omega)), if_pos (by omega), place_eq _ (by omega) k _ (Nat.le_refl _) (by omega), Option.bind_some, if_pos (by omega), if_pos (by omega)]
  rw [show (By (x3 ++ rdOf ByteArray.empty gapLit j)).take (x3 ++ rdOf ByteArray.empty gapLit j).size = By (x3 ++ rdOf ByteArray.empty gapLit j) from List.take_of_length_le (by rw [by_len]; exact Nat.le_refl _)]

theorem itoa_f (n : Int) (h0 : 0 ≤ n) (h1 : n ≤ 65535) : strconv_Itoa.f n = some ⟨(Lib.decDigits n.toNat).toArray⟩ := by
  unfold strconv_Itoa.f Lib.itoa
  rw [if_pos (by omega), if_neg (by omega)]
theorem tab_f (l : List (List UInt8)) (n : Int) (h0 : 0 ≤ n) (h1 : n ≤ 65535) : tabAt l n = some ⟨(l.getD (n.toNat % l.length) []).toArray⟩ := by
  obtain ⟨m, rfl⟩ := Int.eq_ofNat_of_zero_le h0
  unfold tabAt
  rw [if_pos ⟨h0, h1⟩, Int.toNat_natCast, ← Int.natCast_emod, Int.toNat_natCast]
/-- One piece. -/
theorem pieces_step (l : List S45) (x : S45) (i k : Nat) (x3 : ByteArray) (x4 : List S34) (hi : i < l.length) (hx : l[i] = x) (hl : l.length ≤ 40) (hs : x3.size ≤ 50000) (hx4 : x4.length < 1000) (hk : 70000 ≤ k) :
    palingslaw02_LexPieces.l0 (k + 1) x3 x4 l (l.length : Int) (i : Int) =
      palingslaw02_LexPieces.l0 k ⟨(By x3 ++ (pcGap x ++ (pcTok x).2.1)).toArray⟩ (x4 ++ [tk (pcTok x).1 (pcTok x).2.1 (pcTok x).2.2 (adv (1, 1) (By x3 ++ pcGap x))]) l (l.length : Int) ((i + 1 : Nat) : Int) := by
  have q0 : (0 : Int) ≤ (i : Int) := Int.natCast_nonneg i
  have q1 : (i : Int) < (l.length : Int) := Int.ofNat_lt.mpr hi
  have hrd : rd_T45 l (i : Int) = x := by unfold rd_T45; rw [Int.toNat_natCast, List.getD_eq_getElem?_getD, List.getElem?_eq_getElem hi, hx]; rfl
  obtain ⟨j, hj, hj0, hj5, hg⟩ := gap_j x
  obtain ⟨w1, w2, _⟩ := pcTok_whole x
  have hgl : (rdOf ByteArray.empty gapLit j).size ≤ 18 := by rw [← by_len, hg]; exact gap_len (pcGap_mem x)
  have hn0 : 0 ≤ x.f1 % 65536 := Int.emod_nonneg _ (by decide)
  have hn1 : x.f1 % 65536 ≤ 65535 := by omega
  have hnn : ((pcN x : Nat) : Int) = x.f1 % 65536 := by unfold pcN; omega
  have e1 : ∀ t : ByteArray, By t = (pcTok x).2.1 → (x3 ++ rdOf ByteArray.empty gapLit j) ++ t = ⟨(By x3 ++ (pcGap x ++ (pcTok x).2.1)).toArray⟩ := fun t ht => arr_of (by rw [by_append, by_append, hg, ht, List.append_assoc])
  have e2 : adv (1, 1) (By (x3 ++ rdOf ByteArray.empty gapLit j)) = adv (1, 1) (By x3 ++ pcGap x) := by rw [by_append, hg]
  have e3 : wrap64 ((i : Int) + 1) = ((i + 1 : Nat) : Int) := by rw [wrap_small (by omega) (by omega)]; omega
  have e4 : ∀ (t : ByteArray), By t = (pcTok x).2.1 → t = ⟨(pcTok x).2.1.toArray⟩ := fun t ht => arr_of ht
  rw [palingslaw02_LexPieces.l0]
  rw [if_pos q1, if_pos q0, if_pos q1, hrd, hj, i64_and3, i64_and65535]
  by_cases c0 : x.f0 % 4 = 0
  · have hp : pcTok x = (1, 120 :: (Lib.decDigits (pcN x) ++ [95, 89]), 0) := by unfold pcTok; rw [if_pos c0]
    rw [hp] at e1 e4 w2 ⊢
    have hb : By (((⟨#[120]⟩ : ByteArray) ++ ⟨(Lib.decDigits (pcN x)).toArray⟩) ++ (⟨#[95, 89]⟩ : ByteArray)) = 120 :: (Lib.decDigits (pcN x) ++ [95, 89]) := by rw [by_append, by_append]; rfl
    have hl8 := congrArg List.length hb
    rw [by_len] at hl8
    have hz : (⟨(Lib.decDigits (pcN x)).toArray⟩ : ByteArray).size = (Lib.decDigits (pcN x)).length := size_of_list _
    have hz2 : ((⟨#[120]⟩ : ByteArray) ++ ⟨(Lib.decDigits (pcN x)).toArray⟩).size = 1 + (Lib.decDigits (pcN x)).length := by rw [ByteArray.size_append, hz]; rfl
    simp only [List.length_cons, List.length_append, List.length_nil] at w2
    rw [if_pos c0, itoa_f _ hn0 hn1, Option.bind_some, show (x.f1 % 65536).toNat = pcN x from rfl, if_pos (by rw [hz]; omega), if_pos (by rw [hz2]; omega)]
    refine (tail_eq x3 _ _ k j x4.length hj0 hj5 rfl (by omega) (by rw [hl8]; simp only [List.length_cons, List.length_append, List.length_nil]; omega) hk hx4 _).trans ?_
    rw [e1 _ hb, e2, e3, e4 _ hb]
    rfl
  · rw [if_neg c0]
    by_cases c1 : x.f0 % 4 = 1
    · have hp : pcTok x = (2, Lib.decDigits (pcN x), (pcN x : Int)) := by unfold pcTok; rw [if_neg c0, if_pos c1]
      rw [hp] at e1 e4 w2 ⊢
      rw [if_pos c1, itoa_f _ hn0 hn1, Option.bind_some, show (x.f1 % 65536).toNat = pcN x from rfl]
      refine (tail_eq x3 _ _ k j x4.length hj0 hj5 rfl (by omega) (by rw [size_of_list]; exact Nat.le_trans w2 (by decide)) hk hx4 _).trans ?_
      rw [e1 _ rfl, e2, e3, ← hnn]
      rfl
    · rw [if_neg c1]
      by_cases c2 : x.f0 % 4 = 2
      · have hp : pcTok x = (3, wordList.getD (pcN x % 11) [], 0) := by unfold pcTok; rw [if_neg c0, if_neg c1, if_pos c2]
        rw [hp] at e1 e4 w2 ⊢
        rw [if_pos c2, show palingslaw02_wordAt.f (x.f1 % 65536) = some ⟨(wordList.getD (pcN x % 11) []).toArray⟩ from tab_f wordList _ hn0 hn1, Option.bind_some]
        refine (tail_eq x3 _ _ k j x4.length hj0 hj5 rfl (by omega) (by rw [size_of_list]; exact Nat.le_trans w2 (by decide)) hk hx4 _).trans ?_
        rw [e1 _ rfl, e2, e3]
        rfl
      · have hp : pcTok x = (4, markList.getD (pcN x % 28) [], 0) := by unfold pcTok; rw [if_neg c0, if_neg c1, if_neg c2]
        rw [hp] at e1 e4 w2 ⊢
        rw [if_neg c2, show palingslaw02_markAt.f (x.f1 % 65536) = some ⟨(markList.getD (pcN x % 28) []).toArray⟩ from tab_f markList _ hn0 hn1, Option.bind_some]
        refine (tail_eq x3 _ _ k j x4.length hj0 hj5 rfl (by omega) (by rw [size_of_list]; exact Nat.le_trans w2 (by decide)) hk hx4 _).trans ?_
        rw [e1 _ rfl, e2, e3]
        rfl
theorem txt_append (a b : List Pc) : txt (a ++ b) = txt a ++ txt b := by simp [txt]
theorem toks_len : ∀ (l : List Pc) (p : Int × Int), (toks p l).length = l.length + 1
  | [], _ => rfl
  | x :: l, p => by rw [toks, List.length_cons, toks_len l, List.length_cons]
theorem pieces_l0 (l : List S45) (hl : l.length ≤ 40) : ∀ (m i k : Nat) (x3 : ByteArray) (x4 : List S34), i + m = l.length → By x3 = txt ((l.take i).map pc) → x3.size ≤ 30 * i → x4.length = i →
    x4 ++ toks (adv (1, 1) (By x3)) ((l.drop i).map pc) = toks (1, 1) (l.map pc) → 400000 + m ≤ k → palingslaw02_LexPieces.l0 k x3 x4 l (l.length : Int) (i : Int) = some true := by
  intro m
  induction m with
  | zero =>
    intro i k x3 x4 hi hx hs hx4 hts hk
    obtain ⟨k, rfl⟩ : ∃ i, k = i + 2 := ⟨k - 2, by omega⟩
    rw [List.drop_of_length_le (by omega)] at hts
    rw [List.take_of_length_le (by omega)] at hx
    have hall := all_eq x3 (by omega) (by rw [hx]; exact (lex_pieces (l.map pc) (1, 1) (fun y hy => by
      obtain ⟨z, _, rfl⟩ := List.mem_map.mp hy
      exact ⟨pcGap_mem z, pcTok_whole z⟩)).1) (k + 1) (by omega)
    rw [if_pos rfl] at hall
    have hlen := toks_len (l.map pc) (1, 1)
    rw [List.length_map] at hlen
    rw [palingslaw02_LexPieces.l0, if_neg (by omega), place_eq x3 (by omega) (k + 1) x3.size (Nat.le_refl _) (by omega), Option.bind_some, if_pos (by omega), Option.bind_some, hall, Option.bind_some]
    rw [show (By x3).take x3.size = By x3 from List.take_of_length_le (by rw [by_len]; exact Nat.le_refl _)]
    have e : x4 ++ [(⟨0, (⟨#[]⟩ : ByteArray), 0, (⟨(adv (1, 1) (By x3)).1, (adv (1, 1) (By x3)).2⟩ : S26)⟩ : S34)] = toks (1, 1) (l.map pc) := hts
    rw [e, if_neg (by simp)]
    show palingslaw02_LexPieces.j1 (k + 1) _ _ (((toks (1, 1) (l.map pc)).length : Int) != ((toks (1, 1) (l.map pc)).length : Int)) = some true
    rw [bne_self_eq_false, palingslaw02_LexPieces.j1, if_neg (by decide)]
    exact pieces_l1 _ (by omega) _ 0 k (Nat.zero_add _) (by omega)
  | succ m ih =>
    intro i k x3 x4 hi hx hs hx4 hts hk
    obtain ⟨k, rfl⟩ : ∃ i, k = i + 1 := ⟨k - 1, by omega⟩
    have hil : i < l.length := by omega
    rw [pieces_step l l[i] i k x3 x4 hil rfl hl (by omega) (by omega) (by omega)]
    have h18 := gap_len (pcGap_mem l[i])
    have h8 := (pcTok_whole l[i]).2.1
    have hby : By (⟨(By x3 ++ (pcGap l[i] ++ (pcTok l[i]).2.1)).toArray⟩ : ByteArray) = By x3 ++ (pcGap l[i] ++ (pcTok l[i]).2.1) := rfl
    refine ih (i + 1) k _ _ (by omega) ?_ ?_ ?_ ?_ (by omega)
    · rw [hby, List.take_add_one, List.getElem?_eq_getElem hil, List.map_append, txt_append, ← hx]
      simp [txt, pc]
    · rw [size_of_list, List.length_append, by_len, List.length_append]; omega
    · simp [hx4]
    · rw [← hts, List.drop_eq_getElem_cons hil, List.map_cons, toks, hby, List.append_assoc, adv_append, adv_append, adv_append]
      rfl
theorem pieces_true (l : List S45) : palingslaw02_LexPieces.f 500000 l = some true := by
  unfold palingslaw02_LexPieces.f
  rw [head_true 500000 (by decide), Option.bind_some, if_pos rfl]
  by_cases h : (l.length : Int) > 40
  · rw [if_pos h]
  · rw [if_neg h]
    exact pieces_l0 l (by omega) l.length 0 500000 _ _ (Nat.zero_add _) rfl (Nat.zero_le _) rfl rfl (by omega)

noncomputable def pieceFields : Array Field := (match Tryd.prog.underlying 45 with | some (.struct fs) => fs | _ => #[])
theorem pieceUnder : Tryd.prog.underlying 45 = some (.struct pieceFields) := by kernel_rfl
theorem pieceSize : pieceFields.size = 3 := by kernel_rfl
theorem field_at {fs : Array Field} {i : Nat} {k : IntKind} (h : (fs[i]?).map (fun f => (Tryd.prog.underlying f.type, f.offset, Tryd.prog.cellsOf f.type)) = some (some (.int k), i, 1)) :
    ∃ f, fs[i]? = some f ∧ Tryd.prog.underlying f.type = some (.int k) ∧ f.offset = i ∧ Tryd.prog.cellsOf f.type = 1 := by
  obtain ⟨f, h1, h2⟩ := Option.map_eq_some_iff.mp h
  simp only [Prod.mk.injEq] at h2
  exact ⟨f, h1, h2.1, h2.2.1, h2.2.2⟩
theorem pieceEach : ∀ i, i < 3 → ∃ f, pieceFields[i]? = some f ∧ Tryd.prog.underlying f.type = some (.int .i64) ∧ f.offset = i ∧ Tryd.prog.cellsOf f.type = 1 := by
  intro i hi
  have h : i = 0 ∨ i = 1 ∨ i = 2 := by omega
  rcases h with rfl | rfl | rfl
  · exact field_at (by kernel_rfl)
  · exact field_at (by kernel_rfl)
  · exact field_at (by kernel_rfl)
theorem three {α : Type} {l : List α} (h : l.length = 3) : ∃ a b c, l = [a, b, c] := by
  match l, h with
  | [a, b, c], _ => exact ⟨a, b, c, rfl⟩
theorem open_pieces {H : Type} {enc : TypeId × Value → H} {w : World} {v : Value} {d : DataW H} {p : List MemPlace} (h : Arg enc Tryd.prog w 43 v d p) :
    ∃ A c l, v = .slice A l.length c ∧ l.length ≤ c ∧ Kd.C k45 w A l.length l := by
  obtain ⟨fuel, hr⟩ := h.read
  obtain ⟨A, n, cap, xs, h1, h2, _, h3, h4, _⟩ := trod_row k45 (fun _ => True) Tryd.underlying43 (by kernel_rfl) (fun fuel cs x h => by
    obtain ⟨zs, h1, h2, h3⟩ := trod_ints (k := .i64) pieceUnder (by rw [pieceSize]; kernel_rfl) (fun i f hf => by
      have hi : i < 3 := by
        have := (Array.getElem?_eq_some_iff.mp hf).1
        rw [pieceSize] at this; exact this
      obtain ⟨g, hg, r⟩ := pieceEach i hi
      rw [hf] at hg
      cases hg
      exact r) h
    rw [pieceSize] at h2
    obtain ⟨a, b, c, rfl⟩ := three h2
    subst h1
    exact ⟨⟨a, b, c⟩, k45_mk _ ⟨a, b, c⟩, trivial⟩) hr
  have hn : xs.length = n := h3.1
  subst hn
  refine ⟨A, cap, xs, ?_, h2, h3⟩
  obtain ⟨base, hok⟩ := h.ok
  obtain ⟨a, b, c, rfl⟩ := Go.WideShapes.okWide_slice Tryd.underlying43 hok
  simp only [Value.cells] at h1
  cases h1
  rfl
theorem pieces_walk {H : Type} {enc : TypeId × Value → H} {d : DataW H} {p : List MemPlace} (v : Value) (W : World) (h : Arg enc Tryd.prog W 43 v d p) (hL : laidMetH Tryd.prog lexLaid7 W) :
    Calls Tryd.prog 8 #[v] W fun e w' => e = .returned (.bool true) ∧ Below W.heap.size W w' := by
  obtain ⟨A, c, l, rfl, hc, hr⟩ := open_pieces h
  obtain ⟨hG, hW, hM, hP⟩ := of_laid7 hL
  exact palingslaw02_LexPieces.calls 500000 A c l true W hr hc hG hP hW hM (pieces_true l)
end Go.Proofs.YtfljigegjhnidaaDoor.B
