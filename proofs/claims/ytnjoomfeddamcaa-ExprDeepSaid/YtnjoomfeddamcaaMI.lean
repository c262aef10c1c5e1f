/-
  Texts of one proof, laid together: Sp Sr Lx Z1 Z2.
-/
import Derived.Test.YtnjoomfeddamcaaMD
set_option linter.unusedVariables false
set_option linter.unusedSimpArgs false
/-
  What the functions of package expr compute, in plain words: tokens, states of a reader, expressions.
-/
namespace Go.Proofs.Ytnjoomfeddamcaa
open Go.Ev
abbrev Bs := List UInt8
structure Tok where
  kind : Int
  text : Bs
  n : Int
  pos : Int
def Tok.none : Tok := ⟨0, [], 0, 0⟩
def tokAt (T : List Tok) (at_ : Int) : Tok := if at_ < 0 ∨ (T.length : Int) ≤ at_ then .none else T[at_.toNat]?.getD .none
structure St where
  at_ : Int
  opn : Int
  fe : Int
  fa : Int
abbrev w64 (n : Int) : Int := IntKind.i64.wrap n
structure Ea where
  kind : Int
  n : Int := 0
  name : Bs := []
  ofn : Bs := []
  ofd : Int := 0
  pos : Int := 0
  tb : Int := 0
  tr : Int := 0
  td : Int := 0
  ref : Int := 0
inductive Ex where
  | mk (a : Ea) (kids : List Ex)
def Ex.zero : Ex := .mk { kind := 0 } []

/-- Does a token of that kind and text stand there? -/
def isB (T : List Tok) (s : St) (k : Int) (x : Bs) : Bool := s.fe == 0 && ((tokAt T s.at_).kind == k && (tokAt T s.at_).text == x)
def failS (T : List Tok) (e : Int) (s : St) : St := if s.fe = 0 then { s with fe := e, fa := (tokAt T s.at_).pos } else s
def goS (s : St) : St := { s with at_ := w64 (s.at_ + 1) }
def takesS (T : List Tok) (k : Int) (x : Bs) (s : St) : Bool × St := bif isB T s k x then (true, goS s) else (false, s)
def wantsS (T : List Tok) (x : Bs) (s : St) : Bool × St := bif isB T s 4 x then (true, goS s) else (false, failS T 2 s)
def opensS (T : List Tok) (x : Bs) (s : St) : Bool × St := bif isB T s 4 x then (if 50 ≤ s.opn then (false, failS T 4 s) else (true, { s with at_ := w64 (s.at_ + 1), opn := w64 (s.opn + 1) })) else (false, failS T 2 s)
def outS (s : St) : St := { s with opn := w64 (s.opn - 1) }
def closesS (T : List Tok) (x : Bs) (s : St) : Bool × St := wantsS T x (outS s)

/-- A type: how many arrays; the name; as many brackets. -/
def ofL (T : List Tok) : Nat → Int → St → (Int × St) ⊕ St
  | 0, d, s => bif isB T s 4 [91] then .inr (failS T 4 s) else .inl (d, s)
  | n + 1, d, s => bif isB T s 4 [91] then ofL T n (d + 1) (goS s) else .inl (d, s)
def wantN (T : List Tok) (x : Bs) : Nat → St → St
  | 0, s => s
  | n + 1, s => wantN T x n (wantsS T x s).2
def ofE (T : List Tok) (d : Int) (s : St) : (Bs × Int) × St :=
  bif ((tokAt T s.at_).kind != 1 && (!isB T s 3 [105, 110, 116] && !isB T s 3 [98, 111, 111, 108])) then (([], 0), failS T 2 s)
  else (((tokAt T s.at_).text, d), wantN T [93] d.toNat (goS s))
def ofS (T : List Tok) (s : St) : (Bs × Int) × St := match ofL T 3 0 s with
  | .inr s' => (([], 0), s')
  | .inl (d, s') => ofE T d s'

/-- The signs of the levels. -/
def lvls : List (List (Bs × Int)) := [[([124, 124], 24)], [([38, 38], 23)], [([60], 19), ([60, 61], 20), ([61, 61], 21), ([33, 61], 22)], [([43], 14), ([45], 15)], [([42], 16), ([47], 17), ([37], 18)]]
def kindL (T : List Tok) (s : St) : List (Bs × Int) → Int
  | [] => 0
  | (x, k) :: r => bif isB T s 4 x then k else kindL T s r
def kindS (T : List Tok) (lev : Nat) (s : St) : Int := kindL T s (lvls[lev]?.getD [])

def truthS (T : List Tok) (s : St) : Ex × St := (.mk { kind := 2, n := bif (tokAt T s.at_).text == [116, 114, 117, 101] then 1 else 0, pos := (tokAt T s.at_).pos } [], goS s)
def nullS (T : List Tok) (s : St) : Ex × St := (.mk { kind := 3, ofn := (ofS T (goS s)).1.1, ofd := (ofS T (goS s)).1.2, pos := (tokAt T s.at_).pos } [], (ofS T (goS s)).2)
def readS (T : List Tok) (s : St) : Ex × St := (.mk { kind := 11, pos := (tokAt T s.at_).pos } [], bif (opensS T [40] (goS s)).1 then (closesS T [41] (opensS T [40] (goS s)).2).2 else (opensS T [40] (goS s)).2)
def fieldS (T : List Tok) (e : Ex) (s : St) : Ex × St :=
  (.mk { kind := 5, name := (tokAt T (goS s).at_).text, pos := (tokAt T s.at_).pos } [e], goS (bif (tokAt T (goS s).at_).kind != 1 then failS T 2 (goS s) else goS s))
abbrev R (α : Type) := Option (α × St)
mutual
def rowF (T : List Tok) : Nat → Nat → St → R Ex
  | 0, _, _ => none
  | n + 1, lev, s => if lev = 5 then unaryF T n s else (rowF T n (lev + 1) s).bind fun p => rowL T n lev p.1 p.2
def rowL (T : List Tok) : Nat → Nat → Ex → St → R Ex
  | 0, _, _, _ => none
  | n + 1, lev, e, s => if kindS T lev s = 0 then some (e, s) else
      (rowF T n (lev + 1) (goS s)).bind fun p => rowL T n lev (.mk { kind := kindS T lev s, pos := (tokAt T s.at_).pos } [e, p.1]) p.2
def unaryF (T : List Tok) : Nat → St → R Ex
  | 0, _ => none
  | n + 1, s => bif isB T s 4 [45] then signF T n [45] 12 s else bif isB T s 4 [33] then signF T n [33] 13 s else chainF T n s
def signF (T : List Tok) : Nat → Bs → Int → St → R Ex
  | 0, _, _, _ => none
  | n + 1, x, k, s => bif (opensS T x s).1 then (unaryF T n (opensS T x s).2).bind fun p => some (.mk { kind := k, pos := (tokAt T s.at_).pos } [p.1], outS p.2) else some (.zero, (opensS T x s).2)
def chainF (T : List Tok) : Nat → St → R Ex
  | 0, _ => none
  | n + 1, s => (firstF T n s).bind fun p => chainL T n p.1 p.2
def chainL (T : List Tok) : Nat → Ex → St → R Ex
  | 0, _, _ => none
  | n + 1, e, s => bif s.fe == 0 && (tokAt T s.at_).kind == 4 then
      (bif (tokAt T s.at_).text == [46] then chainL T n (fieldS T e s).1 (fieldS T e s).2
      else bif (tokAt T s.at_).text == [91] then (singleF T n [91] [93] s).bind fun p => chainL T n (.mk { kind := 6, pos := (tokAt T s.at_).pos } [e, p.1]) p.2
      else some (e, s)) else some (e, s)
def singleF (T : List Tok) : Nat → Bs → Bs → St → R Ex
  | 0, _, _, _ => none
  | n + 1, b, c, s => bif (opensS T b s).1 then (rowF T n 0 (opensS T b s).2).bind fun p => some (p.1, (closesS T c p.2).2) else some (.zero, (opensS T b s).2)
def firstF (T : List Tok) : Nat → St → R Ex
  | 0, _ => none
  | n + 1, s => if s.fe ≠ 0 then some (.zero, s) else
      if (tokAt T s.at_).kind = 2 then some (.mk { kind := 1, n := (tokAt T s.at_).n, pos := (tokAt T s.at_).pos } [], goS s) else
      if (tokAt T s.at_).kind = 1 then nameF T n s else
      if (tokAt T s.at_).kind = 3 ∨ (tokAt T s.at_).kind = 4 then
        (bif (tokAt T s.at_).kind == 4 then (bif (tokAt T s.at_).text == [40] then singleF T n [40] [41] s else some (.zero, failS T 2 s))
        else bif (tokAt T s.at_).text == [116, 114, 117, 101] || (tokAt T s.at_).text == [102, 97, 108, 115, 101] then some (truthS T s)
        else bif (tokAt T s.at_).text == [110, 117, 108, 108] then some (nullS T s)
        else bif (tokAt T s.at_).text == [110, 101, 119] then freshF T n s
        else bif (tokAt T s.at_).text == [108, 101, 110] then (singleF T n [40] [41] (goS s)).bind fun p => some (.mk { kind := 10, pos := (tokAt T s.at_).pos } [p.1], p.2)
        else bif (tokAt T s.at_).text == [114, 101, 97, 100] then some (readS T s)
        else some (.zero, failS T 2 s))
      else some (.zero, failS T 2 s)
def nameF (T : List Tok) : Nat → St → R Ex
  | 0, _ => none
  | n + 1, s => bif isB T (goS s) 4 [40] then (listF T n (goS s)).bind fun p => some (.mk { kind := 7, name := (tokAt T s.at_).text, pos := (tokAt T s.at_).pos } p.1, p.2)
      else some (.mk { kind := 4, name := (tokAt T s.at_).text, pos := (tokAt T s.at_).pos } [], goS s)
def freshF (T : List Tok) : Nat → St → R Ex
  | 0, _ => none
  | n + 1, s => bif isB T (goS s) 4 [91] then
      (singleF T n [40] [41] (wantsS T [93] (ofS T (goS (goS s))).2).2).bind fun p =>
        some (.mk { kind := 9, ofn := (ofS T (goS (goS s))).1.1, ofd := (ofS T (goS (goS s))).1.2, pos := (tokAt T s.at_).pos } [p.1], p.2)
      else some (.mk { kind := 8, ofn := (tokAt T (goS s).at_).text, pos := (tokAt T s.at_).pos } [], goS (bif (tokAt T (goS s).at_).kind != 1 then failS T 2 (goS s) else goS s))
def listF (T : List Tok) : Nat → St → R (List Ex)
  | 0, _ => none
  | n + 1, s => bif (opensS T [40] s).1 then
      (bif isB T (opensS T [40] s).2 4 [41] then some ([], (closesS T [41] (opensS T [40] s).2).2)
      else (rowF T n 0 (opensS T [40] s).2).bind fun p => listL T n [p.1] p.2)
      else some ([], (opensS T [40] s).2)
def listL (T : List Tok) : Nat → List Ex → St → R (List Ex)
  | 0, _, _ => none
  | n + 1, l, s => bif (takesS T 4 [44] s).1 then (rowF T n 0 (takesS T 4 [44] s).2).bind fun p => listL T n (l ++ [p.1]) p.2
      else some (l, (closesS T [41] (takesS T 4 [44] s).2).2)
end
end Go.Proofs.Ytnjoomfeddamcaa

/-
  What the reference (runrigref3) computes of expressions, in plain words.
-/
namespace Go.Proofs.Ytnjoomfeddamcaa
open Go.Ev

/-- A word's kind, or a sign's. -/
def kw (x : Bs) : Int := match x with
  | c :: _ => if 97 ≤ c.toNat ∧ c.toNat ≤ 122 then 3 else 4
  | [] => 4
def isR (T : List Tok) (s : St) (x : Bs) : Bool := isB T s (kw x) x
def takeR (T : List Tok) (x : Bs) (s : St) : St := bif isR T s x then goS s else failS T 2 s
def inS (s : St) : St := { s with opn := w64 (s.opn + 1) }
def opensR (T : List Tok) (x : Bs) (s : St) : St := bif isR T s x && decide (50 ≤ s.opn) then failS T 4 s else inS (takeR T x s)
def closesR (T : List Tok) (x : Bs) (s : St) : St := outS (takeR T x s)
def nameR (T : List Tok) (s : St) : Bs × St := bif s.fe == 0 && (tokAt T s.at_).kind == 1 then ((tokAt T s.at_).text, goS s) else ([], failS T 2 s)
def takeN (T : List Tok) (x : Bs) : Nat → St → St
  | 0, s => s
  | n + 1, s => takeN T x n (takeR T x s)
def ofRL (T : List Tok) : Nat → Int → St → (Int × St) ⊕ St
  | 0, d, s => bif isR T s [91] then .inr (failS T 4 s) else .inl (d, s)
  | n + 1, d, s => bif isR T s [91] then ofRL T n (d + 1) (goS s) else .inl (d, s)
def ofRE (T : List Tok) (d : Int) (s : St) : (Bs × Int) × St :=
  bif isR T s [105, 110, 116] || isR T s [98, 111, 111, 108] then (((tokAt T s.at_).text, d), takeN T [93] d.toNat (goS s))
  else (((nameR T s).1, d), takeN T [93] d.toNat (nameR T s).2)
def ofR (T : List Tok) (s : St) : (Bs × Int) × St := match ofRL T 3 0 s with
  | .inr s' => (([], 0), s')
  | .inl (d, s') => ofRE T d s'
def levL (x : Bs) : List (Bs × Int) → Int
  | [] => 0
  | (y, k) :: r => bif y == x then k else levL x r
def levR (lev : Nat) (t : Tok) : Int := bif t.kind != 4 then 0 else levL t.text (lvls[lev]?.getD [])
mutual
def exprR (T : List Tok) : Nat → Nat → St → R Ex
  | 0, _, _ => none
  | n + 1, lev, s => if lev = 5 then unaryR T n s else (exprR T n (lev + 1) s).bind fun p => exprRL T n lev p.1 p.2
def exprRL (T : List Tok) : Nat → Nat → Ex → St → R Ex
  | 0, _, _, _ => none
  | n + 1, lev, e, s => bif s.fe == 0 && levR lev (tokAt T s.at_) != 0 then
      (exprR T n (lev + 1) (goS s)).bind fun p => exprRL T n lev (.mk { kind := levR lev (tokAt T s.at_), pos := (tokAt T s.at_).pos } [e, p.1]) p.2
      else some (e, s)
def unaryR (T : List Tok) : Nat → St → R Ex
  | 0, _ => none
  | n + 1, s => bif isR T s [45] then signR T n 12 s else bif isR T s [33] then signR T n 13 s else (firstR T n s).bind fun p => behindR T n p.1 p.2
def signR (T : List Tok) : Nat → Int → St → R Ex
  | 0, _, _ => none
  | n + 1, k, s => (exprR T n 5 (opensR T (tokAt T s.at_).text s)).bind fun p => some (.mk { kind := k, pos := (tokAt T s.at_).pos } [p.1], outS p.2)
def behindR (T : List Tok) : Nat → Ex → St → R Ex
  | 0, _, _ => none
  | n + 1, e, s => bif isR T s [46] then behindR T n (.mk { kind := 5, name := (nameR T (goS s)).1, pos := (tokAt T s.at_).pos } [e]) (nameR T (goS s)).2
      else bif isR T s [91] then (exprR T n 0 (opensR T [91] s)).bind fun p => behindR T n (.mk { kind := 6, pos := (tokAt T s.at_).pos } [e, p.1]) (closesR T [93] p.2)
      else some (e, s)
def innerR (T : List Tok) : Nat → St → R Ex
  | 0, _ => none
  | n + 1, s => (exprR T n 0 (opensR T [40] s)).bind fun p => some (p.1, closesR T [41] p.2)
def firstR (T : List Tok) : Nat → St → R Ex
  | 0, _ => none
  | n + 1, s => bif s.fe == 0 && (tokAt T s.at_).kind == 2 then some (.mk { kind := 1, n := (tokAt T s.at_).n, pos := (tokAt T s.at_).pos } [], goS s)
      else bif isR T s [116, 114, 117, 101] || isR T s [102, 97, 108, 115, 101] then some (.mk { kind := 2, n := bif (tokAt T s.at_).text == [116, 114, 117, 101] then 1 else 0, pos := (tokAt T s.at_).pos } [], goS s)
      else bif isR T s [110, 117, 108, 108] then some (.mk { kind := 3, ofn := (ofR T (goS s)).1.1, ofd := (ofR T (goS s)).1.2, pos := (tokAt T s.at_).pos } [], (ofR T (goS s)).2)
      else bif isR T s [110, 101, 119] then freshR T n (tokAt T s.at_).pos (goS s)
      else bif isR T s [108, 101, 110] then (innerR T n (goS s)).bind fun p => some (.mk { kind := 10, pos := (tokAt T s.at_).pos } [p.1], p.2)
      else bif isR T s [114, 101, 97, 100] then some (.mk { kind := 11, pos := (tokAt T s.at_).pos } [], closesR T [41] (opensR T [40] (goS s)))
      else bif isR T s [40] then innerR T n s
      else bif isR T (nameR T s).2 [40] then (argsR T n (nameR T s).2).bind fun p => some (.mk { kind := 7, name := (nameR T s).1, pos := (tokAt T s.at_).pos } p.1, p.2)
      else some (.mk { kind := 4, name := (nameR T s).1, pos := (tokAt T s.at_).pos } [], (nameR T s).2)
def freshR (T : List Tok) : Nat → Int → St → R Ex
  | 0, _, _ => none
  | n + 1, pos, s => bif isR T s [91] then
      (innerR T n (takeR T [93] (ofR T (goS s)).2)).bind fun p => some (.mk { kind := 9, ofn := (ofR T (goS s)).1.1, ofd := (ofR T (goS s)).1.2, pos := pos } [p.1], p.2)
      else some (.mk { kind := 8, ofn := (nameR T s).1, pos := pos } [], (nameR T s).2)
def argsR (T : List Tok) : Nat → St → R (List Ex)
  | 0, _ => none
  | n + 1, s => bif isR T (opensR T [40] s) [41] then some ([], closesR T [41] (opensR T [40] s))
      else (exprR T n 0 (opensR T [40] s)).bind fun p => argsRL T n [p.1] p.2
def argsRL (T : List Tok) : Nat → List Ex → St → R (List Ex)
  | 0, _, _ => none
  | n + 1, l, s => bif isR T s [44] then (exprR T n 0 (goS s)).bind fun p => argsRL T n (l ++ [p.1]) p.2 else some (l, closesR T [41] s)
end
end Go.Proofs.Ytnjoomfeddamcaa

/-
  What the reference's lexer computes, in plain words.
-/
namespace Go.Proofs.Ytnjoomfeddamcaa
open Go.Ev

def lettI (c : Int) : Bool := (decide (97 ≤ c) && decide (c ≤ 122)) || (decide (65 ≤ c) && decide (c ≤ 90))
def diggI (c : Int) : Bool := decide (48 ≤ c) && decide (c ≤ 57)
def letB (b : UInt8) : Bool := lettI b.toNat
def digB (b : UInt8) : Bool := diggI b.toNat
def wordsL : List Bs := [[114, 101, 99, 111, 114, 100], [103, 108, 111, 98, 97, 108], [102, 117, 110, 99], [118, 97, 114], [108, 101, 116], [105, 102], [101, 108, 115, 101], [119, 104, 105, 108, 101], [114, 101, 116, 117, 114, 110], [112, 114, 105, 110, 116], [110, 117, 108, 108], [110, 101, 119], [108, 101, 110], [114, 101, 97, 100], [116, 114, 117, 101], [102, 97, 108, 115, 101], [105, 110, 116], [98, 111, 111, 108]]
def memB (x : Bs) : List Bs → Bool
  | [] => false
  | y :: ys => y == x || memB x ys
def wordB (x : Bs) : Bool := memB x wordsL
def allP : Bs → Bool
  | [] => true
  | c :: r => (letB c || digB c) && allP r
def nameB (x : Bs) : Bool := decide (1 ≤ x.length) && (decide (x.length ≤ 8) && (letB (x.headD 0) && (!wordB x && allP x)))
/-- How many letters and digits (or digits alone) a text begins with. -/
def runN (d : Bool) : Bs → Nat
  | [] => 0
  | c :: r => bif digB c || (!d && letB c) then runN d r + 1 else 0
/-- Digits as a number; none: no room. -/
def wholeN : Int → Bs → Option Int
  | n, [] => some n
  | n, c :: r => if (9223372036854775807 - ((c.toNat : Int) - 48)) / 10 < n then none else wholeN (10 * n + ((c.toNat : Int) - 48)) r
def twosL : List Bs := [[60, 61], [61, 61], [33, 61], [38, 38], [124, 124]]
def onesL : Bs := [123, 125, 40, 41, 91, 93, 59, 58, 44, 46, 61, 43, 45, 42, 47, 37, 60, 33]
def memC (c : UInt8) : Bs → Bool
  | [] => false
  | y :: ys => c.toNat == y.toNat || memC c ys
/-- The longest sign that a text begins with; none: empty. -/
def signN (s : Bs) : Bs := bif decide (2 ≤ s.length) && memB (s.take 2) twosL then s.take 2 else match s with
  | c :: _ => bif memC c onesL then [c] else []
  | [] => []
def isBlank (c : UInt8) : Bool := c.toNat == 32 || (c.toNat == 9 || (c.toNat == 10 || c.toNat == 13))
/-- How many bytes of blanks and remarks a text begins with; whether it begins in a remark. -/
def blankN : Bool → Bs → Nat
  | _, [] => 0
  | true, c :: r => bif c.toNat == 10 then blankN false r + 1 else blankN true r + 1
  | false, c :: r => bif isBlank c then blankN false r + 1 else bif c == 47 && r.head? == some 47 then blankN true r + 1 else 0
/-- A token's kind, text and number, and how many bytes it has. -/
def oneN (s : Bs) : Option (Int × Bs × Int × Nat) := match s with
  | [] => none
  | c :: _ =>
    bif letB c then (bif wordB (s.take (runN false s)) then some (3, s.take (runN false s), 0, runN false s) else bif nameB (s.take (runN false s)) then some (1, s.take (runN false s), 0, runN false s) else none)
    else bif digB c then
      (match wholeN 0 (s.take (runN true s)) with
      | none => none
      | some v => bif (decide (1 < runN true s) && c.toNat == 48) || (decide (runN true s < s.length) && letB ((s[runN true s]?).getD 0)) then none else some (2, [], v, runN true s))
    else bif signN s == [] then none else some (4, signN s, 0, (signN s).length)
/-- The tokens of what is left, which begins at a place; or the place where there is none. -/
def lexL : Nat → Bs → Nat → Nat ⊕ List Tok
  | 0, _, p => .inl p
  | _ + 1, [], p => .inr [⟨0, [], 0, p⟩]
  | n + 1, c :: r, p => match oneN (c :: r) with
    | none => .inl p
    | some (k, t, v, m) => match lexL n (((c :: r).drop m).drop (blankN false ((c :: r).drop m))) (p + m + blankN false ((c :: r).drop m)) with
      | .inl e => .inl e
      | .inr l => .inr (⟨k, t, v, p⟩ :: l)
def lexS (s : Bs) : Nat ⊕ List Tok := lexL (s.length + 1) (s.drop (blankN false s)) (blankN false s)
def tokensS (s : Bs) : List Tok × Int × Int := if 6000 < s.length then ([], 4, 0) else match lexS s with
  | .inl e => ([], 1, e)
  | .inr l => (l, 0, 0)
end Go.Proofs.Ytnjoomfeddamcaa

/-
  The two mirrors agree.
-/
namespace Go.Proofs.Ytnjoomfeddamcaa
open Go.Ev

/-- How many tokens stand ahead. -/
def left (T : List Tok) (s : St) : Nat := if s.fe = 0 ∧ 0 ≤ s.at_ ∧ s.at_ < T.length then T.length - s.at_.toNat else 0
/-- Both good and equal, or both failed alike. -/
def Same {α : Type} (p q : α × St) : Prop := (p.2.fe = 0 ∧ q = p) ∨ (p.2.fe ≠ 0 ∧ q.2.fe = p.2.fe ∧ q.2.fa = p.2.fa)

theorem isB_failed {T : List Tok} {s : St} (h : s.fe ≠ 0) (k : Int) (x : Bs) : isB T s k x = false := by simp [isB, h]
theorem isR_failed {T : List Tok} {s : St} (h : s.fe ≠ 0) (x : Bs) : isR T s x = false := isB_failed h _ _
theorem failS_failed {T : List Tok} {s : St} (h : s.fe ≠ 0) (e : Int) : failS T e s = s := by simp [failS, h]
theorem kindL_failed {T : List Tok} {s : St} (h : s.fe ≠ 0) : ∀ l, kindL T s l = 0
  | [] => rfl
  | (x, k) :: r => by simp [kindL, isB_failed h, kindL_failed h r]
theorem kindS_failed {T : List Tok} {s : St} (h : s.fe ≠ 0) (lev : Nat) : kindS T lev s = 0 := kindL_failed h _

theorem chainF_failed {T : List Tok} {s : St} (h : s.fe ≠ 0) (n : Nat) (hn : 2 ≤ n) : chainF T n s = some (.zero, s) := by
  obtain ⟨n, rfl⟩ : ∃ m, n = m + 2 := ⟨n - 2, by omega⟩
  have hb : (s.fe == 0) = false := by simpa using h
  simp [chainF, firstF, h, chainL, hb]
theorem unaryF_failed {T : List Tok} {s : St} (h : s.fe ≠ 0) (n : Nat) (hn : 3 ≤ n) : unaryF T n s = some (.zero, s) := by
  obtain ⟨n, rfl⟩ : ∃ m, n = m + 1 := ⟨n - 1, by omega⟩
  simp [unaryF, isB_failed h, chainF_failed h n (by omega)]
theorem rowL_failed {T : List Tok} {s : St} (h : s.fe ≠ 0) (n : Nat) (hn : 1 ≤ n) (lev : Nat) (e : Ex) : rowL T n lev e s = some (e, s) := by
  obtain ⟨n, rfl⟩ : ∃ m, n = m + 1 := ⟨n - 1, by omega⟩
  simp [rowL, kindS_failed h]
theorem rowF_failed {T : List Tok} {s : St} (h : s.fe ≠ 0) : ∀ (n lev : Nat), lev ≤ 5 → 9 ≤ n + lev → rowF T n lev s = some (.zero, s)
  | 0, lev, h5, hn => by omega
  | n + 1, lev, h5, hn => by
    by_cases hl : lev = 5
    · simp [rowF, hl, unaryF_failed h n (by omega)]
    · simp [rowF, hl, rowF_failed h n (lev + 1) (by omega) (by omega), rowL_failed h n (by omega)]

theorem isB_kind {T : List Tok} {s : St} {k : Int} {x : Bs} (h : isB T s k x = true) : s.fe = 0 ∧ (tokAt T s.at_).kind = k ∧ (tokAt T s.at_).text = x := by
  simpa [isB] using h

/-- What the reference makes of a failed state. -/
def deadE (T : List Tok) (s : St) : Ex := .mk { kind := 4, pos := (tokAt T s.at_).pos } []
theorem nameR_failed {T : List Tok} {s : St} (h : s.fe ≠ 0) : nameR T s = ([], s) := by
  have hb : (s.fe == 0) = false := by simpa using h
  simp [nameR, hb, failS_failed h]
theorem firstR_failed {T : List Tok} {s : St} (h : s.fe ≠ 0) (n : Nat) (hn : 1 ≤ n) : firstR T n s = some (deadE T s, s) := by
  obtain ⟨n, rfl⟩ : ∃ m, n = m + 1 := ⟨n - 1, by omega⟩
  have hb : (s.fe == 0) = false := by simpa using h
  simp [firstR, hb, isR_failed h, nameR_failed h, deadE]
theorem behindR_failed {T : List Tok} {s : St} (h : s.fe ≠ 0) (n : Nat) (hn : 1 ≤ n) (e : Ex) : behindR T n e s = some (e, s) := by
  obtain ⟨n, rfl⟩ : ∃ m, n = m + 1 := ⟨n - 1, by omega⟩
  simp [behindR, isR_failed h]
theorem unaryR_failed {T : List Tok} {s : St} (h : s.fe ≠ 0) (n : Nat) (hn : 2 ≤ n) : unaryR T n s = some (deadE T s, s) := by
  obtain ⟨n, rfl⟩ : ∃ m, n = m + 1 := ⟨n - 1, by omega⟩
  simp [unaryR, isR_failed h, firstR_failed h n (by omega), behindR_failed h n (by omega)]
theorem exprRL_failed {T : List Tok} {s : St} (h : s.fe ≠ 0) (n : Nat) (hn : 1 ≤ n) (lev : Nat) (e : Ex) : exprRL T n lev e s = some (e, s) := by
  obtain ⟨n, rfl⟩ : ∃ m, n = m + 1 := ⟨n - 1, by omega⟩
  have hb : (s.fe == 0) = false := by simpa using h
  simp [exprRL, hb]
theorem exprR_failed {T : List Tok} {s : St} (h : s.fe ≠ 0) : ∀ (n lev : Nat), lev ≤ 5 → 9 ≤ n + lev → exprR T n lev s = some (deadE T s, s)
  | 0, lev, h5, hn => by omega
  | n + 1, lev, h5, hn => by
    by_cases hl : lev = 5
    · simp [exprR, hl, unaryR_failed h n (by omega)]
    · simp [exprR, hl, exprR_failed h n (lev + 1) (by omega) (by omega), exprRL_failed h n (by omega)]

/-- A sign: the reference's word for it. -/
theorem levL_zero {x : Bs} : ∀ l : List (Bs × Int), (∀ p ∈ l, p.2 ≠ 0) → ∀ T s, s.fe = 0 → (tokAt T s.at_).kind = 4 → kindL T s l = levL (tokAt T s.at_).text l
  | [], _, _, _, _, _ => rfl
  | (y, k) :: r, h, T, s, hf, hk => by
    have ih := levL_zero (x := x) r (fun p hp => h p (by simp [hp])) T s hf hk
    have hc : isB T s 4 y = (y == (tokAt T s.at_).text) := by
      simp only [isB, hf, hk, beq_self_eq_true, Bool.true_and]
      exact BEq.comm
    simp [kindL, levL, ih, hc]
theorem kindL_other {T : List Tok} {s : St} (hk : (tokAt T s.at_).kind ≠ 4) : ∀ l, kindL T s l = 0
  | [] => rfl
  | (y, k) :: r => by
    have hc : isB T s 4 y = false := by simp [isB, hk]
    simp [kindL, hc, kindL_other hk r]
theorem kindS_levR {T : List Tok} {s : St} (hf : s.fe = 0) {lev : Nat} (hl : lev < 5) : kindS T lev s = levR lev (tokAt T s.at_) := by
  by_cases hk : (tokAt T s.at_).kind = 4
  · have : ((tokAt T s.at_).kind != 4) = false := by simp [hk]
    simp only [kindS, levR, this, cond_false]
    refine levL_zero (x := []) _ ?_ T s hf hk
    have : lev = 0 ∨ lev = 1 ∨ lev = 2 ∨ lev = 3 ∨ lev = 4 := by omega
    rcases this with rfl | rfl | rfl | rfl | rfl <;> simp [lvls]
  · have : ((tokAt T s.at_).kind != 4) = true := by simp [hk]
    simp [kindS, levR, this, kindL_other hk]
end Go.Proofs.Ytnjoomfeddamcaa

/-
  The two mirrors agree: the small steps.
-/
namespace Go.Proofs.Ytnjoomfeddamcaa
open Go.Ev

def SameS (s s' : St) : Prop := (s.fe = 0 ∧ s' = s) ∨ (s.fe ≠ 0 ∧ s'.fe = s.fe ∧ s'.fa = s.fa)
theorem SameS.refl (s : St) : SameS s s := by
  by_cases h : s.fe = 0
  · exact .inl ⟨h, rfl⟩
  · exact .inr ⟨h, rfl, rfl⟩
theorem SameS.out {s s' : St} (h : SameS s s') : SameS (outS s) (outS s') := by
  rcases h with ⟨h, rfl⟩ | ⟨h, h1, h2⟩
  · exact .inl ⟨h, rfl⟩
  · exact .inr ⟨h, h1, h2⟩
theorem failS_fe {T : List Tok} {s : St} (h : s.fe = 0) (e : Int) : (failS T e s).fe = e ∧ (failS T e s).fa = (tokAt T s.at_).pos := by simp [failS, h]
theorem wants_same {T : List Tok} {s s' : St} (h : SameS s s') {x : Bs} (hx : kw x = 4) : SameS (wantsS T x s).2 (takeR T x s') := by
  rcases h with ⟨h, rfl⟩ | ⟨h, h1, h2⟩
  · cases hb : isB T s' 4 x with
    | true => simp only [wantsS, takeR, isR, hx, hb, cond_true]; exact .refl _
    | false => simp only [wantsS, takeR, isR, hx, hb, cond_false]; exact .refl _
  · have h' : s'.fe ≠ 0 := by rw [h1]; exact h
    simp only [wantsS, takeR, isB_failed h, isR_failed h', cond_false, failS_failed h, failS_failed h']
    exact .inr ⟨h, h1, h2⟩
theorem closes_same {T : List Tok} {s s' : St} (h : SameS s s') {x : Bs} (hx : kw x = 4) : SameS (closesS T x s).2 (closesR T x s') := by
  have h1 := wants_same (T := T) h.out hx
  have h2 : SameS (takeR T x (outS s')) (closesR T x s') := by
    by_cases hf : s'.fe = 0
    · have hb : isR T (outS s') x = isR T s' x := rfl
      cases hi : isR T s' x with
      | true => simp only [closesR, takeR, hb, hi, cond_true]; exact .inl ⟨hf, rfl⟩
      | false =>
        simp only [closesR, takeR, hb, hi, cond_false]
        have ho : (outS s').fe = 0 := hf
        refine .inr ⟨by rw [(failS_fe ho 2).1]; decide, ?_, ?_⟩
        · rw [(failS_fe ho 2).1]; exact (failS_fe hf 2).1
        · rw [(failS_fe ho 2).2]; exact (failS_fe hf 2).2
    · have ho : (outS s').fe ≠ 0 := hf
      simp only [closesR, takeR, isR_failed hf, isR_failed ho, cond_false, failS_failed hf, failS_failed ho]
      exact .refl _
  rcases h1 with ⟨a, b⟩ | ⟨a, b, c⟩
  · rcases h2 with ⟨d, e⟩ | ⟨d, e, f⟩
    · exact .inl ⟨a, by rw [e, b]; rfl⟩
    · exact absurd (by rw [b]; exact a) d
  · rcases h2 with ⟨d, e⟩ | ⟨d, e, f⟩
    · exact absurd (b.symm.trans d) a
    · exact .inr ⟨a, e.trans b, f.trans c⟩
/-- Opening, at a good state. -/
theorem opens_same {T : List Tok} {s : St} (h : s.fe = 0) {x : Bs} (hx : kw x = 4) :
    ((opensS T x s).1 = true ∧ isB T s 4 x = true ∧ (opensS T x s).2 = inS (goS s) ∧ opensR T x s = inS (goS s)) ∨
    ((opensS T x s).1 = false ∧ (opensS T x s).2.fe ≠ 0 ∧ SameS (opensS T x s).2 (opensR T x s)) := by
  cases hb : isB T s 4 x with
  | true =>
    by_cases ho : 50 ≤ s.opn
    · refine .inr ?_
      simp only [opensS, opensR, isR, hx, hb, cond_true, Bool.true_and, decide_eq_true ho, if_pos ho]
      exact ⟨trivial, by rw [(failS_fe h 4).1]; decide, .refl _⟩
    · refine .inl ?_
      simp only [opensS, opensR, takeR, isR, hx, hb, cond_true, Bool.true_and, decide_eq_false ho, if_neg ho, cond_false]
      exact ⟨trivial, trivial, rfl, trivial⟩
  | false =>
    refine .inr ?_
    simp only [opensS, opensR, takeR, isR, hx, hb, cond_false, Bool.false_and]
    exact ⟨trivial, by rw [(failS_fe h 2).1]; decide, .inr ⟨by rw [(failS_fe h 2).1]; decide, rfl, rfl⟩⟩
end Go.Proofs.Ytnjoomfeddamcaa

