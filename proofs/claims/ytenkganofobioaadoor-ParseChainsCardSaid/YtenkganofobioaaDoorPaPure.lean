/- Parsing, in plain Lean: the whole parser, with fuel. -/
import Derived.Test.YtenkganofobioaaDoorPaP
namespace Go.Proofs.YtenkganofobioaaDoor.B
open Go.RowKit Go.Proofs.YtenkganofobioaaDoor.Mine Go.Proofs.YtenkganofobioaaDoor.Sep Go.Proofs.YtenkganofobioaaDoorW.PrintWords Go.Proofs.YtenkganofobioaaDoorW.PrintLast Go.Proofs.YtenkganofobioaaDoorW.PrintMore
set_option linter.unusedVariables false
abbrev EX := S51
abbrev ST := S45
abbrev GB := S75
abbrev FU := S41
abbrev TK := S71
/-- What the parser calls again. -/
structure Fns where
  whole : PS → Option (EX × PS)
  unary : PS → Option (EX × PS)
  block : PS → Option (List ST × PS)
  choice : ST → PS → Option (ST × PS)
def markOf (s : PS) (l : List (List UInt8)) : List UInt8 := (l.find? fun m => (nowP s).f0 == 4 && (nowP s).f1.data.toList == m).getD []
def opOf (m : List UInt8) : Int × Bool :=
  if m = [62] then (13, true) else if m = [62, 61] then (14, true)
  else (match (List.range 14).find? fun (i : Nat) => signF ((i : Int) + 1) == m with | none => (0 : Int) | some i => ((i : Nat) : Int) + 1, false)
def bothP (m : List UInt8) (p : S32) (a b : EX) : EX :=
  if m = [38, 38] then ⟨7, p, 0, bs [], 0, [a, b]⟩ else if m = [124, 124] then ⟨8, p, 0, bs [], 0, [a, b]⟩
  else ⟨6, p, 0, bs [], (opOf m).1, if (opOf m).2 then [b, a] else [a, b]⟩
def chainP (next : PS → Option (EX × PS)) (lv : Nat) : Nat → EX → PS → Option (EX × PS)
  | 0, _, _ => none
  | k + 1, e, s =>
    if badP s then some (e, s)
    else if markOf s (levelList.getD lv []) = [] then some (e, s)
    else match next (skipP s) with
      | none => none
      | some (r, s2) =>
        if lv = 2 then some (bothP (markOf s (levelList.getD lv [])) (nowP s).f3 e r, s2)
        else chainP next lv k (bothP (markOf s (levelList.getD lv [])) (nowP s).f3 e r) s2
def exprP (F : Fns) : Nat → PS → Option (EX × PS)
  | 0, s => F.unary s
  | n + 1, s => match exprP F n s with
    | none => none
    | some (e, s1) => chainP (exprP F n) (4 - n) (s1.ts.length + 1) e s1
def wholeP (F : Fns) (s : PS) : Option (EX × PS) :=
  if (downP s).1 then (match exprP F 5 (downP s).2 with | none => none | some (e, s2) => some (e, upP s2))
  else some (z51, (downP s).2)
def listP (whole : PS → Option (EX × PS)) (stop : List UInt8) : Nat → List EX → PS → Option (List EX × PS)
  | 0, _, _ => none
  | k + 1, l, s =>
    if !badP s && !isP s (bs stop) then
      match whole (if 0 < l.length then wantP s (bs [44]) else s) with
      | none => none
      | some (e, s2) => listP whole stop k (l ++ [e]) s2
    else some (l, s)
def argsP (F : Fns) (s : PS) : Option (List EX × PS) :=
  match listP F.whole [41] (s.ts.length + 2) [] s with
  | none => none
  | some (l, s2) => some (l, wantP s2 (bs [41]))
def primaryP (F : Fns) (p : S32) (s : PS) : Option (EX × PS) :=
  if (nowP s).f0 = 2 then some (⟨1, p, (nowP s).f2, bs [], 0, []⟩, skipP s)
  else if (takeP s (bs [116, 114, 117, 101])).1 then some (⟨2, p, 1, bs [], 0, []⟩, (takeP s (bs [116, 114, 117, 101])).2)
  else if (takeP s (bs [102, 97, 108, 115, 101])).1 then some (⟨2, p, 0, bs [], 0, []⟩, (takeP s (bs [102, 97, 108, 115, 101])).2)
  else if (takeP s (bs [40])).1 then (match F.whole (takeP s (bs [40])).2 with | none => none | some (e, s2) => some (e, wantP s2 (bs [41])))
  else
    let nm := (nameP s).1
    let s1 := (nameP s).2
    if (takeP s1 (bs [91])).1 then (match F.whole (takeP s1 (bs [91])).2 with | none => none | some (e, s2) => some (⟨4, p, 0, nm, 0, [e]⟩, wantP s2 (bs [93])))
    else if (takeP s1 (bs [40])).1 then (match argsP F (takeP s1 (bs [40])).2 with | none => none | some (l, s2) => some (⟨5, p, 0, nm, 0, l⟩, s2))
    else some (⟨3, p, 0, nm, 0, []⟩, s1)
def unaryP (F : Fns) (s : PS) : Option (EX × PS) :=
  if badP s then some (z51, s)
  else if isP s (bs [33]) || isP s (bs [45]) then
    if (downP s).1 then
      match F.unary (skipP (downP s).2) with
      | none => none
      | some (e, s2) =>
        if (nowP (downP s).2).f1.data.toList == [33] then some (⟨9, (nowP s).f3, 0, bs [], 0, [e]⟩, upP s2)
        else some (⟨6, (nowP s).f3, 0, bs [], 2, [⟨1, (nowP s).f3, 0, bs [], 0, []⟩, e]⟩, upP s2)
    else some (z51, (downP s).2)
  else primaryP F (nowP s).f3 s
def turnP (F : Fns) (st : ST) (s : PS) : Option (ST × PS) :=
  match F.whole s with
  | none => none
  | some (e, s1) =>
    if badP s1 then some (st, s1)
    else if e.f0 == 3 && (takeP s1 (bs [61])).1 then
      match F.whole (takeP s1 (bs [61])).2 with
      | none => none
      | some (y, s2) => some ({ st with f0 := 2, f2 := e.f3, f3 := [y] }, s2)
    else if e.f0 == 4 && (takeP s1 (bs [61])).1 then
      match F.whole (takeP s1 (bs [61])).2 with
      | none => none
      | some (y, s2) => some ({ st with f0 := 3, f2 := e.f3, f3 := [e.f5.getD 0 z51, y] }, s2)
    else if e.f0 == 5 then some ({ st with f0 := 7, f3 := [e] }, s1)
    else some (st, failP s1 12)
def semi (r : Option (ST × PS)) : Option (ST × PS) := match r with
  | none => none
  | some (st, s) => some (st, wantP s (bs [59]))
def stmtP (F : Fns) (s : PS) : Option (ST × PS) :=
  let st : ST := ⟨0, (nowP s).f3, bs [], [], [], []⟩
  if (takeP s (bs [108, 101, 116])).1 then
    let s1 := (takeP s (bs [108, 101, 116])).2
    match F.whole (wantP (nameP s1).2 (bs [61])) with
    | none => none
    | some (e, s2) => semi (some ({ st with f0 := 1, f2 := (nameP s1).1, f3 := [e] }, s2))
  else if (takeP s (bs [105, 102])).1 then F.choice st (takeP s (bs [105, 102])).2
  else if (takeP s (bs [119, 104, 105, 108, 101])).1 then
    match F.whole (takeP s (bs [119, 104, 105, 108, 101])).2 with
    | none => none
    | some (e, s1) => match F.block s1 with
      | none => none
      | some (b, s2) => some ({ st with f0 := 5, f3 := [e], f4 := b }, s2)
  else if (takeP s (bs [114, 101, 116, 117, 114, 110])).1 then
    match F.whole (takeP s (bs [114, 101, 116, 117, 114, 110])).2 with
    | none => none
    | some (e, s1) => semi (some ({ st with f0 := 6, f3 := [e] }, s1))
  else semi (turnP F st s)
def choiceP (F : Fns) (st : ST) (s : PS) : Option (ST × PS) :=
  match F.whole s with
  | none => none
  | some (e, s1) => match F.block s1 with
    | none => none
    | some (b, s2) =>
      let st1 : ST := { st with f0 := 4, f3 := [e], f4 := b }
      if (takeP s2 (bs [101, 108, 115, 101])).1 then
        let s3 := (takeP s2 (bs [101, 108, 115, 101])).2
        if (takeP s3 (bs [105, 102])).1 then
          let s4 := (takeP s3 (bs [105, 102])).2
          if (downP s4).1 then
            match F.choice ⟨0, (nowP s3).f3, bs [], [], [], []⟩ (downP s4).2 with
            | none => none
            | some (c, s5) => some ({ st1 with f5 := [c] }, upP s5)
          else some (st1, (downP s4).2)
        else match F.block s3 with
          | none => none
          | some (b2, s4) => some ({ st1 with f5 := b2 }, s4)
      else some (st1, s2)
def stmtsP (F : Fns) : Nat → List ST → PS → Option (List ST × PS)
  | 0, _, _ => none
  | k + 1, l, s =>
    if !badP s && !isP s (bs [125]) then
      match stmtP F s with
      | none => none
      | some (st, s2) => stmtsP F k (l ++ [st]) s2
    else some (l, s)
def blockP (F : Fns) (s : PS) : Option (List ST × PS) :=
  let s1 := wantP s (bs [123])
  if (downP s1).1 then
    match stmtsP F ((downP s1).2.ts.length + 2) [] (downP s1).2 with
    | none => none
    | some (l, s2) => some (l, upP (wantP s2 (bs [125])))
  else some ([], (downP s1).2)
def stepF (F : Fns) : Fns := ⟨wholeP F, unaryP F, blockP F, choiceP F⟩
def fnsF : Nat → Fns
  | 0 => ⟨fun _ => none, fun _ => none, fun _ => none, fun _ _ => none⟩
  | k + 1 => stepF (fnsF k)
def globalP (kind : Int) (s : PS) : GB × PS :=
  let nm := nameP s
  let g : GB := ⟨nm.1, kind, 0, (nowP s).f3⟩
  let r : GB × PS :=
    if (takeP nm.2 (bs [91])).1 then
      let s2 := (takeP nm.2 (bs [91])).2
      let q : GB × PS := if badP s2 then (g, s2) else if (nowP s2).f0 != 2 then (g, failP s2 12) else if (nowP s2).f2 < 1 || 4096 < (nowP s2).f2 then (g, failP s2 31) else ({ g with f2 := (nowP s2).f2 }, skipP s2)
      (q.1, wantP q.2 (bs [93]))
    else (g, (takeP nm.2 (bs [91])).2)
  (r.1, wantP r.2 (bs [59]))
def namesP : Nat → List ByteArray → PS → Option (List ByteArray × PS)
  | 0, _, _ => none
  | k + 1, l, s =>
    if !badP s && !isP s (bs [41]) then
      let s1 := if 0 < l.length then wantP s (bs [44]) else s
      namesP k (l ++ [(nameP s1).1]) (nameP s1).2
    else some (l, s)
def functionP (F : Fns) (s : PS) : Option (FU × PS) :=
  let nm := nameP s
  match namesP ((wantP nm.2 (bs [40])).ts.length + 2) [] (wantP nm.2 (bs [40])) with
  | none => none
  | some (l, s2) => match F.block (wantP s2 (bs [41])) with
    | none => none
    | some (b, s3) => some (⟨nm.1, l, b, (nowP s).f3⟩, s3)
def progP (F : Fns) : Nat → List GB → List FU → PS → Option (List GB × List FU × PS)
  | 0, _, _, _ => none
  | k + 1, gs, fs, s =>
    if !badP s && (nowP s).f0 != 0 then
      if (takeP s (bs [118, 97, 114])).1 then let r := globalP 0 (takeP s (bs [118, 97, 114])).2; progP F k (gs ++ [r.1]) fs r.2
      else if (takeP s (bs [112, 117, 98, 108, 105, 99])).1 then let r := globalP 1 (takeP s (bs [112, 117, 98, 108, 105, 99])).2; progP F k (gs ++ [r.1]) fs r.2
      else if (takeP s (bs [115, 101, 99, 114, 101, 116])).1 then let r := globalP 2 (takeP s (bs [115, 101, 99, 114, 101, 116])).2; progP F k (gs ++ [r.1]) fs r.2
      else if (takeP s (bs [102, 117, 110, 99])).1 then
        match functionP F (takeP s (bs [102, 117, 110, 99])).2 with
        | none => none
        | some (f, s2) => progP F k gs (fs ++ [f]) s2
      else progP F k gs fs (failP s 12)
    else some (gs, fs, s)
/-- The program of a text, or its fault and where. -/
inductive Parsed where
  | prog (gs : List GB) (fs : List FU)
  | fault (e l c : Int)
def parseP (fuel : Nat) (s : List UInt8) : Option Parsed :=
  if 65536 < s.length then some (.fault 14 1 1)
  else match allP (s.length + 1) s 1 1 with
    | none => none
    | some (.inr e) => some (.fault e.1 e.2.1 e.2.2)
    | some (.inl ts) => match progP (fnsF fuel) (ts.length + 2) [] [] ⟨ts, 0, 0, 0, 0⟩ with
      | none => none
      | some (gs, fs, s1) => some (if badP s1 then .fault s1.e s1.l s1.c else .prog gs fs)
end Go.Proofs.YtenkganofobioaaDoor.B
