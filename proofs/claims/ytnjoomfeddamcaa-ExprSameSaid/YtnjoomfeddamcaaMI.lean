/-
  Texts of one proof, laid together: Sp Sr.
-/
import Derived.Test.YtnjoomfeddamcaaMD
set_option linter.unusedVariables false
set_option linter.unusedSimpArgs false
/-
  What the functions of package expr compute, in plain words: tokens, states of a reader, expressions.
-/
namespace Go.Proofs.Ytnjoomfeddamcaa
open Go.Ev
abbrev Bs := List UInt8
structure Tok where
  kind : Int
  text : Bs
  n : Int
  pos : Int
def Tok.none : Tok := ⟨0, [], 0, 0⟩
def tokAt (T : List Tok) (at_ : Int) : Tok := if at_ < 0 ∨ (T.length : Int) ≤ at_ then .none else T[at_.toNat]?.getD .none
structure St where
  at_ : Int
  opn : Int
  fe : Int
  fa : Int
abbrev w64 (n : Int) : Int := IntKind.i64.wrap n
structure Ea where
  kind : Int
  n : Int := 0
  name : Bs := []
  ofn : Bs := []
  ofd : Int := 0
  pos : Int := 0
  tb : Int := 0
  tr : Int := 0
  td : Int := 0
  ref : Int := 0
inductive Ex where
  | mk (a : Ea) (kids : List Ex)
def Ex.zero : Ex := .mk { kind := 0 } []

/-- Does a token of that kind and text stand there? -/
def isB (T : List Tok) (s : St) (k : Int) (x : Bs) : Bool := s.fe == 0 && ((tokAt T s.at_).kind == k && (tokAt T s.at_).text == x)
def failS (T : List Tok) (e : Int) (s : St) : St := if s.fe = 0 then { s with fe := e, fa := (tokAt T s.at_).pos } else s
def goS (s : St) : St := { s with at_ := w64 (s.at_ + 1) }
def takesS (T : List Tok) (k : Int) (x : Bs) (s : St) : Bool × St := bif isB T s k x then (true, goS s) else (false, s)
def wantsS (T : List Tok) (x : Bs) (s : St) : Bool × St := bif isB T s 4 x then (true, goS s) else (false, failS T 2 s)
def opensS (T : List Tok) (x : Bs) (s : St) : Bool × St := bif isB T s 4 x then (if 50 ≤ s.opn then (false, failS T 4 s) else (true, { s with at_ := w64 (s.at_ + 1), opn := w64 (s.opn + 1) })) else (false, failS T 2 s)
def outS (s : St) : St := { s with opn := w64 (s.opn - 1) }
def closesS (T : List Tok) (x : Bs) (s : St) : Bool × St := wantsS T x (outS s)

/-- A type: how many arrays; the name; as many brackets. -/
def ofL (T : List Tok) : Nat → Int → St → (Int × St) ⊕ St
  | 0, d, s => bif isB T s 4 [91] then .inr (failS T 4 s) else .inl (d, s)
  | n + 1, d, s => bif isB T s 4 [91] then ofL T n (d + 1) (goS s) else .inl (d, s)
def wantN (T : List Tok) (x : Bs) : Nat → St → St
  | 0, s => s
  | n + 1, s => wantN T x n (wantsS T x s).2
def ofE (T : List Tok) (d : Int) (s : St) : (Bs × Int) × St :=
  bif ((tokAt T s.at_).kind != 1 && (!isB T s 3 [105, 110, 116] && !isB T s 3 [98, 111, 111, 108])) then (([], 0), failS T 2 s)
  else (((tokAt T s.at_).text, d), wantN T [93] d.toNat (goS s))
def ofS (T : List Tok) (s : St) : (Bs × Int) × St := match ofL T 3 0 s with
  | .inr s' => (([], 0), s')
  | .inl (d, s') => ofE T d s'

/-- The signs of the levels. -/
def lvls : List (List (Bs × Int)) := [[([124, 124], 24)], [([38, 38], 23)], [([60], 19), ([60, 61], 20), ([61, 61], 21), ([33, 61], 22)], [([43], 14), ([45], 15)], [([42], 16), ([47], 17), ([37], 18)]]
def kindL (T : List Tok) (s : St) : List (Bs × Int) → Int
  | [] => 0
  | (x, k) :: r => bif isB T s 4 x then k else kindL T s r
def kindS (T : List Tok) (lev : Nat) (s : St) : Int := kindL T s (lvls[lev]?.getD [])

def truthS (T : List Tok) (s : St) : Ex × St := (.mk { kind := 2, n := bif (tokAt T s.at_).text == [116, 114, 117, 101] then 1 else 0, pos := (tokAt T s.at_).pos } [], goS s)
def nullS (T : List Tok) (s : St) : Ex × St := (.mk { kind := 3, ofn := (ofS T (goS s)).1.1, ofd := (ofS T (goS s)).1.2, pos := (tokAt T s.at_).pos } [], (ofS T (goS s)).2)
def readS (T : List Tok) (s : St) : Ex × St := (.mk { kind := 11, pos := (tokAt T s.at_).pos } [], bif (opensS T [40] (goS s)).1 then (closesS T [41] (opensS T [40] (goS s)).2).2 else (opensS T [40] (goS s)).2)
def fieldS (T : List Tok) (e : Ex) (s : St) : Ex × St :=
  (.mk { kind := 5, name := (tokAt T (goS s).at_).text, pos := (tokAt T s.at_).pos } [e], goS (bif (tokAt T (goS s).at_).kind != 1 then failS T 2 (goS s) else goS s))
abbrev R (α : Type) := Option (α × St)
mutual
def rowF (T : List Tok) : Nat → Nat → St → R Ex
  | 0, _, _ => none
  | n + 1, lev, s => if lev = 5 then unaryF T n s else (rowF T n (lev + 1) s).bind fun p => rowL T n lev p.1 p.2
def rowL (T : List Tok) : Nat → Nat → Ex → St → R Ex
  | 0, _, _, _ => none
  | n + 1, lev, e, s => if kindS T lev s = 0 then some (e, s) else
      (rowF T n (lev + 1) (goS s)).bind fun p => rowL T n lev (.mk { kind := kindS T lev s, pos := (tokAt T s.at_).pos } [e, p.1]) p.2
def unaryF (T : List Tok) : Nat → St → R Ex
  | 0, _ => none
  | n + 1, s => bif isB T s 4 [45] then signF T n [45] 12 s else bif isB T s 4 [33] then signF T n [33] 13 s else chainF T n s
def signF (T : List Tok) : Nat → Bs → Int → St → R Ex
  | 0, _, _, _ => none
  | n + 1, x, k, s => bif (opensS T x s).1 then (unaryF T n (opensS T x s).2).bind fun p => some (.mk { kind := k, pos := (tokAt T s.at_).pos } [p.1], outS p.2) else some (.zero, (opensS T x s).2)
def chainF (T : List Tok) : Nat → St → R Ex
  | 0, _ => none
  | n + 1, s => (firstF T n s).bind fun p => chainL T n p.1 p.2
def chainL (T : List Tok) : Nat → Ex → St → R Ex
  | 0, _, _ => none
  | n + 1, e, s => bif s.fe == 0 && (tokAt T s.at_).kind == 4 then
      (bif (tokAt T s.at_).text == [46] then chainL T n (fieldS T e s).1 (fieldS T e s).2
      else bif (tokAt T s.at_).text == [91] then (singleF T n [91] [93] s).bind fun p => chainL T n (.mk { kind := 6, pos := (tokAt T s.at_).pos } [e, p.1]) p.2
      else some (e, s)) else some (e, s)
def singleF (T : List Tok) : Nat → Bs → Bs → St → R Ex
  | 0, _, _, _ => none
  | n + 1, b, c, s => bif (opensS T b s).1 then (rowF T n 0 (opensS T b s).2).bind fun p => some (p.1, (closesS T c p.2).2) else some (.zero, (opensS T b s).2)
def firstF (T : List Tok) : Nat → St → R Ex
  | 0, _ => none
  | n + 1, s => if s.fe ≠ 0 then some (.zero, s) else
      if (tokAt T s.at_).kind = 2 then some (.mk { kind := 1, n := (tokAt T s.at_).n, pos := (tokAt T s.at_).pos } [], goS s) else
      if (tokAt T s.at_).kind = 1 then nameF T n s else
      if (tokAt T s.at_).kind = 3 ∨ (tokAt T s.at_).kind = 4 then
        (bif (tokAt T s.at_).kind == 4 then (bif (tokAt T s.at_).text == [40] then singleF T n [40] [41] s else some (.zero, failS T 2 s))
        else bif (tokAt T s.at_).text == [116, 114, 117, 101] || (tokAt T s.at_).text == [102, 97, 108, 115, 101] then some (truthS T s)
        else bif (tokAt T s.at_).text == [110, 117, 108, 108] then some (nullS T s)
        else bif (tokAt T s.at_).text == [110, 101, 119] then freshF T n s
        else bif (tokAt T s.at_).text == [108, 101, 110] then (singleF T n [40] [41] (goS s)).bind fun p => some (.mk { kind := 10, pos := (tokAt T s.at_).pos } [p.1], p.2)
        else bif (tokAt T s.at_).text == [114, 101, 97, 100] then some (readS T s)
        else some (.zero, failS T 2 s))
      else some (.zero, failS T 2 s)
def nameF (T : List Tok) : Nat → St → R Ex
  | 0, _ => none
  | n + 1, s => bif isB T (goS s) 4 [40] then (listF T n (goS s)).bind fun p => some (.mk { kind := 7, name := (tokAt T s.at_).text, pos := (tokAt T s.at_).pos } p.1, p.2)
      else some (.mk { kind := 4, name := (tokAt T s.at_).text, pos := (tokAt T s.at_).pos } [], goS s)
def freshF (T : List Tok) : Nat → St → R Ex
  | 0, _ => none
  | n + 1, s => bif isB T (goS s) 4 [91] then
      (singleF T n [40] [41] (wantsS T [93] (ofS T (goS (goS s))).2).2).bind fun p =>
        some (.mk { kind := 9, ofn := (ofS T (goS (goS s))).1.1, ofd := (ofS T (goS (goS s))).1.2, pos := (tokAt T s.at_).pos } [p.1], p.2)
      else some (.mk { kind := 8, ofn := (tokAt T (goS s).at_).text, pos := (tokAt T s.at_).pos } [], goS (bif (tokAt T (goS s).at_).kind != 1 then failS T 2 (goS s) else goS s))
def listF (T : List Tok) : Nat → St → R (List Ex)
  | 0, _ => none
  | n + 1, s => bif (opensS T [40] s).1 then
      (bif isB T (opensS T [40] s).2 4 [41] then some ([], (closesS T [41] (opensS T [40] s).2).2)
      else (rowF T n 0 (opensS T [40] s).2).bind fun p => listL T n [p.1] p.2)
      else some ([], (opensS T [40] s).2)
def listL (T : List Tok) : Nat → List Ex → St → R (List Ex)
  | 0, _, _ => none
  | n + 1, l, s => bif (takesS T 4 [44] s).1 then (rowF T n 0 (takesS T 4 [44] s).2).bind fun p => listL T n (l ++ [p.1]) p.2
      else some (l, (closesS T [41] (takesS T 4 [44] s).2).2)
end
end Go.Proofs.Ytnjoomfeddamcaa

/-
  What the reference (runrigref3) computes of expressions, in plain words.
-/
namespace Go.Proofs.Ytnjoomfeddamcaa
open Go.Ev

/-- A word's kind, or a sign's. -/
def kw (x : Bs) : Int := match x with
  | c :: _ => if 97 ≤ c.toNat ∧ c.toNat ≤ 122 then 3 else 4
  | [] => 4
def isR (T : List Tok) (s : St) (x : Bs) : Bool := isB T s (kw x) x
def takeR (T : List Tok) (x : Bs) (s : St) : St := bif isR T s x then goS s else failS T 2 s
def inS (s : St) : St := { s with opn := w64 (s.opn + 1) }
def opensR (T : List Tok) (x : Bs) (s : St) : St := bif isR T s x && decide (50 ≤ s.opn) then failS T 4 s else inS (takeR T x s)
def closesR (T : List Tok) (x : Bs) (s : St) : St := outS (takeR T x s)
def nameR (T : List Tok) (s : St) : Bs × St := bif s.fe == 0 && (tokAt T s.at_).kind == 1 then ((tokAt T s.at_).text, goS s) else ([], failS T 2 s)
def takeN (T : List Tok) (x : Bs) : Nat → St → St
  | 0, s => s
  | n + 1, s => takeN T x n (takeR T x s)
def ofRL (T : List Tok) : Nat → Int → St → (Int × St) ⊕ St
  | 0, d, s => bif isR T s [91] then .inr (failS T 4 s) else .inl (d, s)
  | n + 1, d, s => bif isR T s [91] then ofRL T n (d + 1) (goS s) else .inl (d, s)
def ofRE (T : List Tok) (d : Int) (s : St) : (Bs × Int) × St :=
  bif isR T s [105, 110, 116] || isR T s [98, 111, 111, 108] then (((tokAt T s.at_).text, d), takeN T [93] d.toNat (goS s))
  else (((nameR T s).1, d), takeN T [93] d.toNat (nameR T s).2)
def ofR (T : List Tok) (s : St) : (Bs × Int) × St := match ofRL T 3 0 s with
  | .inr s' => (([], 0), s')
  | .inl (d, s') => ofRE T d s'
def levL (x : Bs) : List (Bs × Int) → Int
  | [] => 0
  | (y, k) :: r => bif y == x then k else levL x r
def levR (lev : Nat) (t : Tok) : Int := bif t.kind != 4 then 0 else levL t.text (lvls[lev]?.getD [])
mutual
def exprR (T : List Tok) : Nat → Nat → St → R Ex
  | 0, _, _ => none
  | n + 1, lev, s => if lev = 5 then unaryR T n s else (exprR T n (lev + 1) s).bind fun p => exprRL T n lev p.1 p.2
def exprRL (T : List Tok) : Nat → Nat → Ex → St → R Ex
  | 0, _, _, _ => none
  | n + 1, lev, e, s => bif s.fe == 0 && levR lev (tokAt T s.at_) != 0 then
      (exprR T n (lev + 1) (goS s)).bind fun p => exprRL T n lev (.mk { kind := levR lev (tokAt T s.at_), pos := (tokAt T s.at_).pos } [e, p.1]) p.2
      else some (e, s)
def unaryR (T : List Tok) : Nat → St → R Ex
  | 0, _ => none
  | n + 1, s => bif isR T s [45] then signR T n 12 s else bif isR T s [33] then signR T n 13 s else (firstR T n s).bind fun p => behindR T n p.1 p.2
def signR (T : List Tok) : Nat → Int → St → R Ex
  | 0, _, _ => none
  | n + 1, k, s => (exprR T n 5 (opensR T (tokAt T s.at_).text s)).bind fun p => some (.mk { kind := k, pos := (tokAt T s.at_).pos } [p.1], outS p.2)
def behindR (T : List Tok) : Nat → Ex → St → R Ex
  | 0, _, _ => none
  | n + 1, e, s => bif isR T s [46] then behindR T n (.mk { kind := 5, name := (nameR T (goS s)).1, pos := (tokAt T s.at_).pos } [e]) (nameR T (goS s)).2
      else bif isR T s [91] then (exprR T n 0 (opensR T [91] s)).bind fun p => behindR T n (.mk { kind := 6, pos := (tokAt T s.at_).pos } [e, p.1]) (closesR T [93] p.2)
      else some (e, s)
def innerR (T : List Tok) : Nat → St → R Ex
  | 0, _ => none
  | n + 1, s => (exprR T n 0 (opensR T [40] s)).bind fun p => some (p.1, closesR T [41] p.2)
def firstR (T : List Tok) : Nat → St → R Ex
  | 0, _ => none
  | n + 1, s => bif s.fe == 0 && (tokAt T s.at_).kind == 2 then some (.mk { kind := 1, n := (tokAt T s.at_).n, pos := (tokAt T s.at_).pos } [], goS s)
      else bif isR T s [116, 114, 117, 101] || isR T s [102, 97, 108, 115, 101] then some (.mk { kind := 2, n := bif (tokAt T s.at_).text == [116, 114, 117, 101] then 1 else 0, pos := (tokAt T s.at_).pos } [], goS s)
      else bif isR T s [110, 117, 108, 108] then some (.mk { kind := 3, ofn := (ofR T (goS s)).1.1, ofd := (ofR T (goS s)).1.2, pos := (tokAt T s.at_).pos } [], (ofR T (goS s)).2)
      else bif isR T s [110, 101, 119] then freshR T n (tokAt T s.at_).pos (goS s)
      else bif isR T s [108, 101, 110] then (innerR T n (goS s)).bind fun p => some (.mk { kind := 10, pos := (tokAt T s.at_).pos } [p.1], p.2)
      else bif isR T s [114, 101, 97, 100] then some (.mk { kind := 11, pos := (tokAt T s.at_).pos } [], closesR T [41] (opensR T [40] (goS s)))
      else bif isR T s [40] then innerR T n s
      else bif isR T (nameR T s).2 [40] then (argsR T n (nameR T s).2).bind fun p => some (.mk { kind := 7, name := (nameR T s).1, pos := (tokAt T s.at_).pos } p.1, p.2)
      else some (.mk { kind := 4, name := (nameR T s).1, pos := (tokAt T s.at_).pos } [], (nameR T s).2)
def freshR (T : List Tok) : Nat → Int → St → R Ex
  | 0, _, _ => none
  | n + 1, pos, s => bif isR T s [91] then
      (innerR T n (takeR T [93] (ofR T (goS s)).2)).bind fun p => some (.mk { kind := 9, ofn := (ofR T (goS s)).1.1, ofd := (ofR T (goS s)).1.2, pos := pos } [p.1], p.2)
      else some (.mk { kind := 8, ofn := (nameR T s).1, pos := pos } [], (nameR T s).2)
def argsR (T : List Tok) : Nat → St → R (List Ex)
  | 0, _ => none
  | n + 1, s => bif isR T (opensR T [40] s) [41] then some ([], closesR T [41] (opensR T [40] s))
      else (exprR T n 0 (opensR T [40] s)).bind fun p => argsRL T n [p.1] p.2
def argsRL (T : List Tok) : Nat → List Ex → St → R (List Ex)
  | 0, _, _ => none
  | n + 1, l, s => bif isR T s [44] then (exprR T n 0 (goS s)).bind fun p => argsRL T n (l ++ [p.1]) p.2 else some (l, closesR T [41] s)
end
end Go.Proofs.Ytnjoomfeddamcaa

