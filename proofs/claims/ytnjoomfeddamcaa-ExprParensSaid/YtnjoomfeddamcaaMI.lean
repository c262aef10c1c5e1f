/-
  Texts of one proof, laid together: Sp Sr Lx Z1 Z2 Z3 Z4 Z5 Z6 Z7 Z8 Z9 Z10 Z11.
-/
import Derived.Test.YtnjoomfeddamcaaMD
set_option linter.unusedVariables false
set_option linter.unusedSimpArgs false
namespace Go.Proofs.Ytnjoomfeddamcaa
open Go.Ev
abbrev Bs := List UInt8
structure Tok where
  kind : Int
  text : Bs
  n : Int
  pos : Int
def Tok.none : Tok := ⟨0, [], 0, 0⟩
def tokAt (T : List Tok) (at_ : Int) : Tok := if at_ < 0 ∨ (T.length : Int) ≤ at_ then .none else T[at_.toNat]?.getD .none
structure St where
  at_ : Int
  opn : Int
  fe : Int
  fa : Int
abbrev w64 (n : Int) : Int := IntKind.i64.wrap n
structure Ea where
  kind : Int
  n : Int := 0
  name : Bs := []
  ofn : Bs := []
  ofd : Int := 0
  pos : Int := 0
  tb : Int := 0
  tr : Int := 0
  td : Int := 0
  ref : Int := 0
inductive Ex where
  | mk (a : Ea) (kids : List Ex)
def Ex.zero : Ex := .mk { kind := 0 } []
def isB (T : List Tok) (s : St) (k : Int) (x : Bs) : Bool := s.fe == 0 && ((tokAt T s.at_).kind == k && (tokAt T s.at_).text == x)
def failS (T : List Tok) (e : Int) (s : St) : St := if s.fe = 0 then { s with fe := e, fa := (tokAt T s.at_).pos } else s
def goS (s : St) : St := { s with at_ := w64 (s.at_ + 1) }
def takesS (T : List Tok) (k : Int) (x : Bs) (s : St) : Bool × St := bif isB T s k x then (true, goS s) else (false, s)
def wantsS (T : List Tok) (x : Bs) (s : St) : Bool × St := bif isB T s 4 x then (true, goS s) else (false, failS T 2 s)
def opensS (T : List Tok) (x : Bs) (s : St) : Bool × St := bif isB T s 4 x then (if 50 ≤ s.opn then (false, failS T 4 s) else (true, { s with at_ := w64 (s.at_ + 1), opn := w64 (s.opn + 1) })) else (false, failS T 2 s)
def outS (s : St) : St := { s with opn := w64 (s.opn - 1) }
def closesS (T : List Tok) (x : Bs) (s : St) : Bool × St := wantsS T x (outS s)
def ofL (T : List Tok) : Nat → Int → St → (Int × St) ⊕ St
  | 0, d, s => bif isB T s 4 [91] then .inr (failS T 4 s) else .inl (d, s)
  | n + 1, d, s => bif isB T s 4 [91] then ofL T n (d + 1) (goS s) else .inl (d, s)
def wantN (T : List Tok) (x : Bs) : Nat → St → St
  | 0, s => s
  | n + 1, s => wantN T x n (wantsS T x s).2
def ofE (T : List Tok) (d : Int) (s : St) : (Bs × Int) × St :=
  bif ((tokAt T s.at_).kind != 1 && (!isB T s 3 [105, 110, 116] && !isB T s 3 [98, 111, 111, 108])) then (([], 0), failS T 2 s)
  else (((tokAt T s.at_).text, d), wantN T [93] d.toNat (goS s))
def ofS (T : List Tok) (s : St) : (Bs × Int) × St := match ofL T 3 0 s with
  | .inr s' => (([], 0), s')
  | .inl (d, s') => ofE T d s'
def lvls : List (List (Bs × Int)) := [[([124, 124], 24)], [([38, 38], 23)], [([60], 19), ([60, 61], 20), ([61, 61], 21), ([33, 61], 22)], [([43], 14), ([45], 15)], [([42], 16), ([47], 17), ([37], 18)]]
def kindL (T : List Tok) (s : St) : List (Bs × Int) → Int
  | [] => 0
  | (x, k) :: r => bif isB T s 4 x then k else kindL T s r
def kindS (T : List Tok) (lev : Nat) (s : St) : Int := kindL T s (lvls[lev]?.getD [])
def truthS (T : List Tok) (s : St) : Ex × St := (.mk { kind := 2, n := bif (tokAt T s.at_).text == [116, 114, 117, 101] then 1 else 0, pos := (tokAt T s.at_).pos } [], goS s)
def nullS (T : List Tok) (s : St) : Ex × St := (.mk { kind := 3, ofn := (ofS T (goS s)).1.1, ofd := (ofS T (goS s)).1.2, pos := (tokAt T s.at_).pos } [], (ofS T (goS s)).2)
def readS (T : List Tok) (s : St) : Ex × St := (.mk { kind := 11, pos := (tokAt T s.at_).pos } [], bif (opensS T [40] (goS s)).1 then (closesS T [41] (opensS T [40] (goS s)).2).2 else (opensS T [40] (goS s)).2)
def fieldS (T : List Tok) (e : Ex) (s : St) : Ex × St :=
  (.mk { kind := 5, name := (tokAt T (goS s).at_).text, pos := (tokAt T s.at_).pos } [e], goS (bif (tokAt T (goS s).at_).kind != 1 then failS T 2 (goS s) else goS s))
abbrev R (α : Type) := Option (α × St)
mutual
def rowF (T : List Tok) : Nat → Nat → St → R Ex
  | 0, _, _ => none
  | n + 1, lev, s => if lev = 5 then unaryF T n s else (rowF T n (lev + 1) s).bind fun p => rowL T n lev p.1 p.2
def rowL (T : List Tok) : Nat → Nat → Ex → St → R Ex
  | 0, _, _, _ => none
  | n + 1, lev, e, s => if kindS T lev s = 0 then some (e, s) else
      (rowF T n (lev + 1) (goS s)).bind fun p => rowL T n lev (.mk { kind := kindS T lev s, pos := (tokAt T s.at_).pos } [e, p.1]) p.2
def unaryF (T : List Tok) : Nat → St → R Ex
  | 0, _ => none
  | n + 1, s => bif isB T s 4 [45] then signF T n [45] 12 s else bif isB T s 4 [33] then signF T n [33] 13 s else chainF T n s
def signF (T : List Tok) : Nat → Bs → Int → St → R Ex
  | 0, _, _, _ => none
  | n + 1, x, k, s => bif (opensS T x s).1 then (unaryF T n (opensS T x s).2).bind fun p => some (.mk { kind := k, pos := (tokAt T s.at_).pos } [p.1], outS p.2) else some (.zero, (opensS T x s).2)
def chainF (T : List Tok) : Nat → St → R Ex
  | 0, _ => none
  | n + 1, s => (firstF T n s).bind fun p => chainL T n p.1 p.2
def chainL (T : List Tok) : Nat → Ex → St → R Ex
  | 0, _, _ => none
  | n + 1, e, s => bif s.fe == 0 && (tokAt T s.at_).kind == 4 then
      (bif (tokAt T s.at_).text == [46] then chainL T n (fieldS T e s).1 (fieldS T e s).2
      else bif (tokAt T s.at_).text == [91] then (singleF T n [91] [93] s).bind fun p => chainL T n (.mk { kind := 6, pos := (tokAt T s.at_).pos } [e, p.1]) p.2
      else some (e, s)) else some (e, s)
def singleF (T : List Tok) : Nat → Bs → Bs → St → R Ex
  | 0, _, _, _ => none
  | n + 1, b, c, s => bif (opensS T b s).1 then (rowF T n 0 (opensS T b s).2).bind fun p => some (p.1, (closesS T c p.2).2) else some (.zero, (opensS T b s).2)
def firstF (T : List Tok) : Nat → St → R Ex
  | 0, _ => none
  | n + 1, s => if s.fe ≠ 0 then some (.zero, s) else
      if (tokAt T s.at_).kind = 2 then some (.mk { kind := 1, n := (tokAt T s.at_).n, pos := (tokAt T s.at_).pos } [], goS s) else
      if (tokAt T s.at_).kind = 1 then nameF T n s else
      if (tokAt T s.at_).kind = 3 ∨ (tokAt T s.at_).kind = 4 then
        (bif (tokAt T s.at_).kind == 4 then (bif (tokAt T s.at_).text == [40] then singleF T n [40] [41] s else some (.zero, failS T 2 s))
        else bif (tokAt T s.at_).text == [116, 114, 117, 101] || (tokAt T s.at_).text == [102, 97, 108, 115, 101] then some (truthS T s)
        else bif (tokAt T s.at_).text == [110, 117, 108, 108] then some (nullS T s)
        else bif (tokAt T s.at_).text == [110, 101, 119] then freshF T n s
        else bif (tokAt T s.at_).text == [108, 101, 110] then (singleF T n [40] [41] (goS s)).bind fun p => some (.mk { kind := 10, pos := (tokAt T s.at_).pos } [p.1], p.2)
        else bif (tokAt T s.at_).text == [114, 101, 97, 100] then some (readS T s)
        else some (.zero, failS T 2 s))
      else some (.zero, failS T 2 s)
def nameF (T : List Tok) : Nat → St → R Ex
  | 0, _ => none
  | n + 1, s => bif isB T (goS s) 4 [40] then (listF T n (goS s)).bind fun p => some (.mk { kind := 7, name := (tokAt T s.at_).text, pos := (tokAt T s.at_).pos } p.1, p.2)
      else some (.mk { kind := 4, name := (tokAt T s.at_).text, pos := (tokAt T s.at_).pos } [], goS s)
def freshF (T : List Tok) : Nat → St → R Ex
  | 0, _ => none
  | n + 1, s => bif isB T (goS s) 4 [91] then
      (singleF T n [40] [41] (wantsS T [93] (ofS T (goS (goS s))).2).2).bind fun p =>
        some (.mk { kind := 9, ofn := (ofS T (goS (goS s))).1.1, ofd := (ofS T (goS (goS s))).1.2, pos := (tokAt T s.at_).pos } [p.1], p.2)
      else some (.mk { kind := 8, ofn := (tokAt T (goS s).at_).text, pos := (tokAt T s.at_).pos } [], goS (bif (tokAt T (goS s).at_).kind != 1 then failS T 2 (goS s) else goS s))
def listF (T : List Tok) : Nat → St → R (List Ex)
  | 0, _ => none
  | n + 1, s => bif (opensS T [40] s).1 then
      (bif isB T (opensS T [40] s).2 4 [41] then some ([], (closesS T [41] (opensS T [40] s).2).2)
      else (rowF T n 0 (opensS T [40] s).2).bind fun p => listL T n [p.1] p.2)
      else some ([], (opensS T [40] s).2)
def listL (T : List Tok) : Nat → List Ex → St → R (List Ex)
  | 0, _, _ => none
  | n + 1, l, s => bif (takesS T 4 [44] s).1 then (rowF T n 0 (takesS T 4 [44] s).2).bind fun p => listL T n (l ++ [p.1]) p.2
      else some (l, (closesS T [41] (takesS T 4 [44] s).2).2)
end
end Go.Proofs.Ytnjoomfeddamcaa

namespace Go.Proofs.Ytnjoomfeddamcaa
open Go.Ev
def kw (x : Bs) : Int := match x with
  | c :: _ => if 97 ≤ c.toNat ∧ c.toNat ≤ 122 then 3 else 4
  | [] => 4
def isR (T : List Tok) (s : St) (x : Bs) : Bool := isB T s (kw x) x
def takeR (T : List Tok) (x : Bs) (s : St) : St := bif isR T s x then goS s else failS T 2 s
def inS (s : St) : St := { s with opn := w64 (s.opn + 1) }
def opensR (T : List Tok) (x : Bs) (s : St) : St := bif isR T s x && decide (50 ≤ s.opn) then failS T 4 s else inS (takeR T x s)
def closesR (T : List Tok) (x : Bs) (s : St) : St := outS (takeR T x s)
def nameR (T : List Tok) (s : St) : Bs × St := bif s.fe == 0 && (tokAt T s.at_).kind == 1 then ((tokAt T s.at_).text, goS s) else ([], failS T 2 s)
def takeN (T : List Tok) (x : Bs) : Nat → St → St
  | 0, s => s
  | n + 1, s => takeN T x n (takeR T x s)
def ofRL (T : List Tok) : Nat → Int → St → (Int × St) ⊕ St
  | 0, d, s => bif isR T s [91] then .inr (failS T 4 s) else .inl (d, s)
  | n + 1, d, s => bif isR T s [91] then ofRL T n (d + 1) (goS s) else .inl (d, s)
def ofRE (T : List Tok) (d : Int) (s : St) : (Bs × Int) × St :=
  bif isR T s [105, 110, 116] || isR T s [98, 111, 111, 108] then (((tokAt T s.at_).text, d), takeN T [93] d.toNat (goS s))
  else (((nameR T s).1, d), takeN T [93] d.toNat (nameR T s).2)
def ofR (T : List Tok) (s : St) : (Bs × Int) × St := match ofRL T 3 0 s with
  | .inr s' => (([], 0), s')
  | .inl (d, s') => ofRE T d s'
def levL (x : Bs) : List (Bs × Int) → Int
  | [] => 0
  | (y, k) :: r => bif y == x then k else levL x r
def levR (lev : Nat) (t : Tok) : Int := bif t.kind != 4 then 0 else levL t.text (lvls[lev]?.getD [])
mutual
def exprR (T : List Tok) : Nat → Nat → St → R Ex
  | 0, _, _ => none
  | n + 1, lev, s => if lev = 5 then unaryR T n s else (exprR T n (lev + 1) s).bind fun p => exprRL T n lev p.1 p.2
def exprRL (T : List Tok) : Nat → Nat → Ex → St → R Ex
  | 0, _, _, _ => none
  | n + 1, lev, e, s => bif s.fe == 0 && levR lev (tokAt T s.at_) != 0 then
      (exprR T n (lev + 1) (goS s)).bind fun p => exprRL T n lev (.mk { kind := levR lev (tokAt T s.at_), pos := (tokAt T s.at_).pos } [e, p.1]) p.2
      else some (e, s)
def unaryR (T : List Tok) : Nat → St → R Ex
  | 0, _ => none
  | n + 1, s => bif isR T s [45] then signR T n 12 s else bif isR T s [33] then signR T n 13 s else (firstR T n s).bind fun p => behindR T n p.1 p.2
def signR (T : List Tok) : Nat → Int → St → R Ex
  | 0, _, _ => none
  | n + 1, k, s => (exprR T n 5 (opensR T (tokAt T s.at_).text s)).bind fun p => some (.mk { kind := k, pos := (tokAt T s.at_).pos } [p.1], outS p.2)
def behindR (T : List Tok) : Nat → Ex → St → R Ex
  | 0, _, _ => none
  | n + 1, e, s => bif isR T s [46] then behindR T n (.mk { kind := 5, name := (nameR T (goS s)).1, pos := (tokAt T s.at_).pos } [e]) (nameR T (goS s)).2
      else bif isR T s [91] then (exprR T n 0 (opensR T [91] s)).bind fun p => behindR T n (.mk { kind := 6, pos := (tokAt T s.at_).pos } [e, p.1]) (closesR T [93] p.2)
      else some (e, s)
def innerR (T : List Tok) : Nat → St → R Ex
  | 0, _ => none
  | n + 1, s => (exprR T n 0 (opensR T [40] s)).bind fun p => some (p.1, closesR T [41] p.2)
def firstR (T : List Tok) : Nat → St → R Ex
  | 0, _ => none
  | n + 1, s => bif s.fe == 0 && (tokAt T s.at_).kind == 2 then some (.mk { kind := 1, n := (tokAt T s.at_).n, pos := (tokAt T s.at_).pos } [], goS s)
      else bif isR T s [116, 114, 117, 101] || isR T s [102, 97, 108, 115, 101] then some (.mk { kind := 2, n := bif (tokAt T s.at_).text == [116, 114, 117, 101] then 1 else 0, pos := (tokAt T s.at_).pos } [], goS s)
      else bif isR T s [110, 117, 108, 108] then some (.mk { kind := 3, ofn := (ofR T (goS s)).1.1, ofd := (ofR T (goS s)).1.2, pos := (tokAt T s.at_).pos } [], (ofR T (goS s)).2)
      else bif isR T s [110, 101, 119] then freshR T n (tokAt T s.at_).pos (goS s)
      else bif isR T s [108, 101, 110] then (innerR T n (goS s)).bind fun p => some (.mk { kind := 10, pos := (tokAt T s.at_).pos } [p.1], p.2)
      else bif isR T s [114, 101, 97, 100] then some (.mk { kind := 11, pos := (tokAt T s.at_).pos } [], closesR T [41] (opensR T [40] (goS s)))
      else bif isR T s [40] then innerR T n s
      else bif isR T (nameR T s).2 [40] then (argsR T n (nameR T s).2).bind fun p => some (.mk { kind := 7, name := (nameR T s).1, pos := (tokAt T s.at_).pos } p.1, p.2)
      else some (.mk { kind := 4, name := (nameR T s).1, pos := (tokAt T s.at_).pos } [], (nameR T s).2)
def freshR (T : List Tok) : Nat → Int → St → R Ex
  | 0, _, _ => none
  | n + 1, pos, s => bif isR T s [91] then
      (innerR T n (takeR T [93] (ofR T (goS s)).2)).bind fun p => some (.mk { kind := 9, ofn := (ofR T (goS s)).1.1, ofd := (ofR T (goS s)).1.2, pos := pos } [p.1], p.2)
      else some (.mk { kind := 8, ofn := (nameR T s).1, pos := pos } [], (nameR T s).2)
def argsR (T : List Tok) : Nat → St → R (List Ex)
  | 0, _ => none
  | n + 1, s => bif isR T (opensR T [40] s) [41] then some ([], closesR T [41] (opensR T [40] s))
      else (exprR T n 0 (opensR T [40] s)).bind fun p => argsRL T n [p.1] p.2
def argsRL (T : List Tok) : Nat → List Ex → St → R (List Ex)
  | 0, _, _ => none
  | n + 1, l, s => bif isR T s [44] then (exprR T n 0 (goS s)).bind fun p => argsRL T n (l ++ [p.1]) p.2 else some (l, closesR T [41] s)
end
end Go.Proofs.Ytnjoomfeddamcaa

namespace Go.Proofs.Ytnjoomfeddamcaa
open Go.Ev
def lettI (c : Int) : Bool := (decide (97 ≤ c) && decide (c ≤ 122)) || (decide (65 ≤ c) && decide (c ≤ 90))
def diggI (c : Int) : Bool := decide (48 ≤ c) && decide (c ≤ 57)
def letB (b : UInt8) : Bool := lettI b.toNat
def digB (b : UInt8) : Bool := diggI b.toNat
def wordsL : List Bs := [[114, 101, 99, 111, 114, 100], [103, 108, 111, 98, 97, 108], [102, 117, 110, 99], [118, 97, 114], [108, 101, 116], [105, 102], [101, 108, 115, 101], [119, 104, 105, 108, 101], [114, 101, 116, 117, 114, 110], [112, 114, 105, 110, 116], [110, 117, 108, 108], [110, 101, 119], [108, 101, 110], [114, 101, 97, 100], [116, 114, 117, 101], [102, 97, 108, 115, 101], [105, 110, 116], [98, 111, 111, 108]]
def memB (x : Bs) : List Bs → Bool
  | [] => false
  | y :: ys => y == x || memB x ys
def wordB (x : Bs) : Bool := memB x wordsL
def allP : Bs → Bool
  | [] => true
  | c :: r => (letB c || digB c) && allP r
def nameB (x : Bs) : Bool := decide (1 ≤ x.length) && (decide (x.length ≤ 8) && (letB (x.headD 0) && (!wordB x && allP x)))
def runN (d : Bool) : Bs → Nat
  | [] => 0
  | c :: r => bif digB c || (!d && letB c) then runN d r + 1 else 0
def wholeN : Int → Bs → Option Int
  | n, [] => some n
  | n, c :: r => if (9223372036854775807 - ((c.toNat : Int) - 48)) / 10 < n then none else wholeN (10 * n + ((c.toNat : Int) - 48)) r
def twosL : List Bs := [[60, 61], [61, 61], [33, 61], [38, 38], [124, 124]]
def onesL : Bs := [123, 125, 40, 41, 91, 93, 59, 58, 44, 46, 61, 43, 45, 42, 47, 37, 60, 33]
def memC (c : UInt8) : Bs → Bool
  | [] => false
  | y :: ys => c.toNat == y.toNat || memC c ys
def signN (s : Bs) : Bs := bif decide (2 ≤ s.length) && memB (s.take 2) twosL then s.take 2 else match s with
  | c :: _ => bif memC c onesL then [c] else []
  | [] => []
def isBlank (c : UInt8) : Bool := c.toNat == 32 || (c.toNat == 9 || (c.toNat == 10 || c.toNat == 13))
def blankN : Bool → Bs → Nat
  | _, [] => 0
  | true, c :: r => bif c.toNat == 10 then blankN false r + 1 else blankN true r + 1
  | false, c :: r => bif isBlank c then blankN false r + 1 else bif c == 47 && r.head? == some 47 then blankN true r + 1 else 0
def oneN (s : Bs) : Option (Int × Bs × Int × Nat) := match s with
  | [] => none
  | c :: _ =>
    bif letB c then (bif wordB (s.take (runN false s)) then some (3, s.take (runN false s), 0, runN false s) else bif nameB (s.take (runN false s)) then some (1, s.take (runN false s), 0, runN false s) else none)
    else bif digB c then
      (match wholeN 0 (s.take (runN true s)) with
      | none => none
      | some v => bif (decide (1 < runN true s) && c.toNat == 48) || (decide (runN true s < s.length) && letB ((s[runN true s]?).getD 0)) then none else some (2, [], v, runN true s))
    else bif signN s == [] then none else some (4, signN s, 0, (signN s).length)
def lexL : Nat → Bs → Nat → Nat ⊕ List Tok
  | 0, _, p => .inl p
  | _ + 1, [], p => .inr [⟨0, [], 0, p⟩]
  | n + 1, c :: r, p => match oneN (c :: r) with
    | none => .inl p
    | some (k, t, v, m) => match lexL n (((c :: r).drop m).drop (blankN false ((c :: r).drop m))) (p + m + blankN false ((c :: r).drop m)) with
      | .inl e => .inl e
      | .inr l => .inr (⟨k, t, v, p⟩ :: l)
def lexS (s : Bs) : Nat ⊕ List Tok := lexL (s.length + 1) (s.drop (blankN false s)) (blankN false s)
def tokensS (s : Bs) : List Tok × Int × Int := if 6000 < s.length then ([], 4, 0) else match lexS s with
  | .inl e => ([], 1, e)
  | .inr l => (l, 0, 0)
end Go.Proofs.Ytnjoomfeddamcaa

namespace Go.Proofs.Ytnjoomfeddamcaa
open Go.Ev
def left (T : List Tok) (s : St) : Nat := if s.fe = 0 ∧ 0 ≤ s.at_ ∧ s.at_ < T.length then T.length - s.at_.toNat else 0
def Same {α : Type} (p q : α × St) : Prop := (p.2.fe = 0 ∧ q = p) ∨ (p.2.fe ≠ 0 ∧ q.2.fe = p.2.fe ∧ q.2.fa = p.2.fa)
theorem isB_failed {T : List Tok} {s : St} (h : s.fe ≠ 0) (k : Int) (x : Bs) : isB T s k x = false := by simp [isB, h]
theorem isR_failed {T : List Tok} {s : St} (h : s.fe ≠ 0) (x : Bs) : isR T s x = false := isB_failed h _ _
theorem failS_failed {T : List Tok} {s : St} (h : s.fe ≠ 0) (e : Int) : failS T e s = s := by simp [failS, h]
theorem kindL_failed {T : List Tok} {s : St} (h : s.fe ≠ 0) : ∀ l, kindL T s l = 0
  | [] => rfl
  | (x, k) :: r => by simp [kindL, isB_failed h, kindL_failed h r]
theorem kindS_failed {T : List Tok} {s : St} (h : s.fe ≠ 0) (lev : Nat) : kindS T lev s = 0 := kindL_failed h _
theorem chainF_failed {T : List Tok} {s : St} (h : s.fe ≠ 0) (n : Nat) (hn : 2 ≤ n) : chainF T n s = some (.zero, s) := by
  obtain ⟨n, rfl⟩ : ∃ m, n = m + 2 := ⟨n - 2, by omega⟩
  have hb : (s.fe == 0) = false := by simpa using h
  simp [chainF, firstF, h, chainL, hb]
theorem unaryF_failed {T : List Tok} {s : St} (h : s.fe ≠ 0) (n : Nat) (hn : 3 ≤ n) : unaryF T n s = some (.zero, s) := by
  obtain ⟨n, rfl⟩ : ∃ m, n = m + 1 := ⟨n - 1, by omega⟩
  simp [unaryF, isB_failed h, chainF_failed h n (by omega)]
theorem rowL_failed {T : List Tok} {s : St} (h : s.fe ≠ 0) (n : Nat) (hn : 1 ≤ n) (lev : Nat) (e : Ex) : rowL T n lev e s = some (e, s) := by
  obtain ⟨n, rfl⟩ : ∃ m, n = m + 1 := ⟨n - 1, by omega⟩
  simp [rowL, kindS_failed h]
theorem rowF_failed {T : List Tok} {s : St} (h : s.fe ≠ 0) : ∀ (n lev : Nat), lev ≤ 5 → 9 ≤ n + lev → rowF T n lev s = some (.zero, s)
  | 0, lev, h5, hn => by omega
  | n + 1, lev, h5, hn => by
    by_cases hl : lev = 5
    · simp [rowF, hl, unaryF_failed h n (by omega)]
    · simp [rowF, hl, rowF_failed h n (lev + 1) (by omega) (by omega), rowL_failed h n (by omega)]
theorem isB_kind {T : List Tok} {s : St} {k : Int} {x : Bs} (h : isB T s k x = true) : s.fe = 0 ∧ (tokAt T s.at_).kind = k ∧ (tokAt T s.at_).text = x := by
  simpa [isB] using h
def deadE (T : List Tok) (s : St) : Ex := .mk { kind := 4, pos := (tokAt T s.at_).pos } []
theorem nameR_failed {T : List Tok} {s : St} (h : s.fe ≠ 0) : nameR T s = ([], s) := by
  have hb : (s.fe == 0) = false := by simpa using h
  simp [nameR, hb, failS_failed h]
theorem firstR_failed {T : List Tok} {s : St} (h : s.fe ≠ 0) (n : Nat) (hn : 1 ≤ n) : firstR T n s = some (deadE T s, s) := by
  obtain ⟨n, rfl⟩ : ∃ m, n = m + 1 := ⟨n - 1, by omega⟩
  have hb : (s.fe == 0) = false := by simpa using h
  simp [firstR, hb, isR_failed h, nameR_failed h, deadE]
theorem behindR_failed {T : List Tok} {s : St} (h : s.fe ≠ 0) (n : Nat) (hn : 1 ≤ n) (e : Ex) : behindR T n e s = some (e, s) := by
  obtain ⟨n, rfl⟩ : ∃ m, n = m + 1 := ⟨n - 1, by omega⟩
  simp [behindR, isR_failed h]
theorem unaryR_failed {T : List Tok} {s : St} (h : s.fe ≠ 0) (n : Nat) (hn : 2 ≤ n) : unaryR T n s = some (deadE T s, s) := by
  obtain ⟨n, rfl⟩ : ∃ m, n = m + 1 := ⟨n - 1, by omega⟩
  simp [unaryR, isR_failed h, firstR_failed h n (by omega), behindR_failed h n (by omega)]
theorem exprRL_failed {T : List Tok} {s : St} (h : s.fe ≠ 0) (n : Nat) (hn : 1 ≤ n) (lev : Nat) (e : Ex) : exprRL T n lev e s = some (e, s) := by
  obtain ⟨n, rfl⟩ : ∃ m, n = m + 1 := ⟨n - 1, by omega⟩
  have hb : (s.fe == 0) = false := by simpa using h
  simp [exprRL, hb]
theorem exprR_failed {T : List Tok} {s : St} (h : s.fe ≠ 0) : ∀ (n lev : Nat), lev ≤ 5 → 9 ≤ n + lev → exprR T n lev s = some (deadE T s, s)
  | 0, lev, h5, hn => by omega
  | n + 1, lev, h5, hn => by
    by_cases hl : lev = 5
    · simp [exprR, hl, unaryR_failed h n (by omega)]
    · simp [exprR, hl, exprR_failed h n (lev + 1) (by omega) (by omega), exprRL_failed h n (by omega)]
theorem levL_zero {x : Bs} : ∀ l : List (Bs × Int), (∀ p ∈ l, p.2 ≠ 0) → ∀ T s, s.fe = 0 → (tokAt T s.at_).kind = 4 → kindL T s l = levL (tokAt T s.at_).text l
  | [], _, _, _, _, _ => rfl
  | (y, k) :: r, h, T, s, hf, hk => by
    have ih := levL_zero (x := x) r (fun p hp => h p (by simp [hp])) T s hf hk
    have hc : isB T s 4 y = (y == (tokAt T s.at_).text) := by
      simp only [isB, hf, hk, beq_self_eq_true, Bool.true_and]
      exact BEq.comm
    simp [kindL, levL, ih, hc]
theorem kindL_other {T : List Tok} {s : St} (hk : (tokAt T s.at_).kind ≠ 4) : ∀ l, kindL T s l = 0
  | [] => rfl
  | (y, k) :: r => by
    have hc : isB T s 4 y = false := by simp [isB, hk]
    simp [kindL, hc, kindL_other hk r]
theorem kindS_levR {T : List Tok} {s : St} (hf : s.fe = 0) {lev : Nat} (hl : lev < 5) : kindS T lev s = levR lev (tokAt T s.at_) := by
  by_cases hk : (tokAt T s.at_).kind = 4
  · have : ((tokAt T s.at_).kind != 4) = false := by simp [hk]
    simp only [kindS, levR, this, cond_false]
    refine levL_zero (x := []) _ ?_ T s hf hk
    have : lev = 0 ∨ lev = 1 ∨ lev = 2 ∨ lev = 3 ∨ lev = 4 := by omega
    rcases this with rfl | rfl | rfl | rfl | rfl <;> simp [lvls]
  · have : ((tokAt T s.at_).kind != 4) = true := by simp [hk]
    simp [kindS, levR, this, kindL_other hk]
end Go.Proofs.Ytnjoomfeddamcaa

namespace Go.Proofs.Ytnjoomfeddamcaa
open Go.Ev
def SameS (s s' : St) : Prop := (s.fe = 0 ∧ s' = s) ∨ (s.fe ≠ 0 ∧ s'.fe = s.fe ∧ s'.fa = s.fa)
theorem SameS.refl (s : St) : SameS s s := by
  by_cases h : s.fe = 0
  · exact .inl ⟨h, rfl⟩
  · exact .inr ⟨h, rfl, rfl⟩
theorem SameS.out {s s' : St} (h : SameS s s') : SameS (outS s) (outS s') := by
  rcases h with ⟨h, rfl⟩ | ⟨h, h1, h2⟩
  · exact .inl ⟨h, rfl⟩
  · exact .inr ⟨h, h1, h2⟩
theorem failS_fe {T : List Tok} {s : St} (h : s.fe = 0) (e : Int) : (failS T e s).fe = e ∧ (failS T e s).fa = (tokAt T s.at_).pos := by simp [failS, h]
theorem wants_same {T : List Tok} {s s' : St} (h : SameS s s') {x : Bs} (hx : kw x = 4) : SameS (wantsS T x s).2 (takeR T x s') := by
  rcases h with ⟨h, rfl⟩ | ⟨h, h1, h2⟩
  · cases hb : isB T s' 4 x with
    | true => simp only [wantsS, takeR, isR, hx, hb, cond_true]; exact .refl _
    | false => simp only [wantsS, takeR, isR, hx, hb, cond_false]; exact .refl _
  · have h' : s'.fe ≠ 0 := by rw [h1]; exact h
    simp only [wantsS, takeR, isB_failed h, isR_failed h', cond_false, failS_failed h, failS_failed h']
    exact .inr ⟨h, h1, h2⟩
theorem closes_same {T : List Tok} {s s' : St} (h : SameS s s') {x : Bs} (hx : kw x = 4) : SameS (closesS T x s).2 (closesR T x s') := by
  have h1 := wants_same (T := T) h.out hx
  have h2 : SameS (takeR T x (outS s')) (closesR T x s') := by
    by_cases hf : s'.fe = 0
    · have hb : isR T (outS s') x = isR T s' x := rfl
      cases hi : isR T s' x with
      | true => simp only [closesR, takeR, hb, hi, cond_true]; exact .inl ⟨hf, rfl⟩
      | false =>
        simp only [closesR, takeR, hb, hi, cond_false]
        have ho : (outS s').fe = 0 := hf
        refine .inr ⟨by rw [(failS_fe ho 2).1]; decide, ?_, ?_⟩
        · rw [(failS_fe ho 2).1]; exact (failS_fe hf 2).1
        · rw [(failS_fe ho 2).2]; exact (failS_fe hf 2).2
    · have ho : (outS s').fe ≠ 0 := hf
      simp only [closesR, takeR, isR_failed hf, isR_failed ho, cond_false, failS_failed hf, failS_failed ho]
      exact .refl _
  rcases h1 with ⟨a, b⟩ | ⟨a, b, c⟩
  · rcases h2 with ⟨d, e⟩ | ⟨d, e, f⟩
    · exact .inl ⟨a, by rw [e, b]; rfl⟩
    · exact absurd (by rw [b]; exact a) d
  · rcases h2 with ⟨d, e⟩ | ⟨d, e, f⟩
    · exact absurd (b.symm.trans d) a
    · exact .inr ⟨a, e.trans b, f.trans c⟩
theorem opens_same {T : List Tok} {s : St} (h : s.fe = 0) {x : Bs} (hx : kw x = 4) :
    ((opensS T x s).1 = true ∧ isB T s 4 x = true ∧ (opensS T x s).2 = inS (goS s) ∧ opensR T x s = inS (goS s)) ∨
    ((opensS T x s).1 = false ∧ (opensS T x s).2.fe ≠ 0 ∧ SameS (opensS T x s).2 (opensR T x s)) := by
  cases hb : isB T s 4 x with
  | true =>
    by_cases ho : 50 ≤ s.opn
    · refine .inr ?_
      simp only [opensS, opensR, isR, hx, hb, cond_true, Bool.true_and, decide_eq_true ho, if_pos ho]
      exact ⟨trivial, by rw [(failS_fe h 4).1]; decide, .refl _⟩
    · refine .inl ?_
      simp only [opensS, opensR, takeR, isR, hx, hb, cond_true, Bool.true_and, decide_eq_false ho, if_neg ho, cond_false]
      exact ⟨trivial, trivial, rfl, trivial⟩
  | false =>
    refine .inr ?_
    simp only [opensS, opensR, takeR, isR, hx, hb, cond_false, Bool.false_and]
    exact ⟨trivial, by rw [(failS_fe h 2).1]; decide, .inr ⟨by rw [(failS_fe h 2).1]; decide, rfl, rfl⟩⟩
end Go.Proofs.Ytnjoomfeddamcaa

namespace Go.Proofs.Ytnjoomfeddamcaa
open Go.Ev
theorem Same.of {α : Type} {a b : α} {s s' : St} (h : SameS s s') (hab : s.fe = 0 → b = a) : Same (a, s) (b, s') := by
  rcases h with ⟨h, rfl⟩ | ⟨h, h1, h2⟩
  · exact .inl ⟨h, by rw [hab h]⟩
  · exact .inr ⟨h, h1, h2⟩
theorem Same.st {α : Type} {p q : α × St} (h : Same p q) : SameS p.2 q.2 := by
  rcases h with ⟨h, rfl⟩ | ⟨h, h1, h2⟩
  · exact .inl ⟨h, rfl⟩
  · exact .inr ⟨h, h1, h2⟩
theorem wantN_same {T : List Tok} {x : Bs} (hx : kw x = 4) : ∀ (n : Nat) {s s' : St}, SameS s s' → SameS (wantN T x n s) (takeN T x n s')
  | 0, _, _, h => h
  | n + 1, _, _, h => wantN_same hx n (wants_same h hx)
theorem takeN_failed {T : List Tok} {x : Bs} : ∀ (n : Nat) {s : St}, s.fe ≠ 0 → takeN T x n s = s
  | 0, _, _ => rfl
  | n + 1, s, h => by simp [takeN, takeR, isR_failed h, failS_failed h, takeN_failed n h]
theorem wantN_failed {T : List Tok} {x : Bs} : ∀ (n : Nat) {s : St}, s.fe ≠ 0 → wantN T x n s = s
  | 0, _, _ => rfl
  | n + 1, s, h => by simp [wantN, wantsS, isB_failed h, failS_failed h, wantN_failed n h]
theorem ofL_same {T : List Tok} : ∀ (n : Nat) (d : Int) (s : St), ofRL T n d s = ofL T n d s
  | 0, d, s => rfl
  | n + 1, d, s => by
    have : isR T s [91] = isB T s 4 [91] := rfl
    simp [ofRL, ofL, this, ofL_same n]
theorem ofE_same {T : List Tok} (d : Int) (s : St) : Same (ofE T d s) (ofRE T d s) := by
  have e1 : isR T s [105, 110, 116] = isB T s 3 [105, 110, 116] := rfl
  have e2 : isR T s [98, 111, 111, 108] = isB T s 3 [98, 111, 111, 108] := rfl
  by_cases hf : s.fe = 0
  · cases h1 : isB T s 3 [105, 110, 116] with
    | true =>
      simp only [ofE, ofRE, e1, e2, h1, Bool.not_true, Bool.false_and, Bool.and_false, cond_false, Bool.true_or, cond_true]
      exact Same.of (wantN_same rfl _ (.refl _)) fun _ => rfl
    | false =>
      cases h2 : isB T s 3 [98, 111, 111, 108] with
      | true =>
        simp only [ofE, ofRE, e1, e2, h1, h2, Bool.not_true, Bool.and_false, cond_false, Bool.false_or, cond_true]
        exact Same.of (wantN_same rfl _ (.refl _)) fun _ => rfl
      | false =>
        by_cases hk : (tokAt T s.at_).kind = 1
        · simp only [ofE, ofRE, e1, e2, h1, h2, nameR, hf, hk, Bool.not_false, Bool.and_self, Bool.and_true, bne_self_eq_false, cond_false, Bool.or_self, beq_self_eq_true, cond_true]
          exact Same.of (wantN_same rfl _ (.refl _)) fun _ => rfl
        · have hb : ((tokAt T s.at_).kind == 1) = false := by simpa using hk
          have hb' : ((tokAt T s.at_).kind != 1) = true := by simpa using hk
          have hf2 : (failS T 2 s).fe ≠ 0 := by rw [(failS_fe hf 2).1]; decide
          simp only [ofE, ofRE, e1, e2, h1, h2, nameR, hf, hb, hb', Bool.not_false, Bool.and_self, Bool.and_false, cond_true, Bool.or_self, cond_false, takeN_failed _ hf2]
          exact Same.of (.refl _) fun h => absurd h hf2
  · have hb : (s.fe == 0) = false := by simpa using hf
    have hg : (goS s).fe ≠ 0 := hf
    simp only [ofE, ofRE, e1, e2, isB_failed hf, nameR, hb, Bool.false_and, Bool.or_self, cond_false, failS_failed hf, takeN_failed _ hf, wantN_failed _ hg, Bool.not_false, Bool.and_self, Bool.and_true]
    cases (tokAt T s.at_).kind != 1 with
    | true => exact .inr ⟨hf, rfl, rfl⟩
    | false => exact .inr ⟨hf, rfl, rfl⟩
theorem of_same (T : List Tok) (s : St) : Same (ofS T s) (ofR T s) := by
  simp only [ofS, ofR, ofL_same]
  cases ofL T 3 0 s with
  | inr s' => exact Same.of (.refl _) fun _ => rfl
  | inl p => exact ofE_same p.1 p.2
end Go.Proofs.Ytnjoomfeddamcaa

namespace Go.Proofs.Ytnjoomfeddamcaa
open Go.Ev
theorem left_failed {T : List Tok} {s : St} (h : s.fe ≠ 0) : left T s = 0 := by simp [left, h]
theorem left_in {T : List Tok} (s : St) : left T (inS s) = left T s := rfl
theorem left_out {T : List Tok} (s : St) : left T (outS s) = left T s := rfl
theorem left_fail {T : List Tok} (s : St) (e : Int) : left T (failS T e s) ≤ left T s := by
  by_cases h : s.fe = 0
  · unfold left
    simp only [failS, h, if_true, true_and]
    split
    · rename_i hh
      rw [if_pos hh.2]
      omega
    · omega
  · rw [failS_failed h]; omega
theorem tok_range {T : List Tok} {a : Int} (h : (tokAt T a).kind ≠ 0) : 0 ≤ a ∧ a < T.length := by
  unfold tokAt at h
  split at h
  · exact absurd rfl h
  · omega
theorem left_go {T : List Tok} (hT : T.length ≤ 40000000) {s : St} (hf : s.fe = 0) (hk : (tokAt T s.at_).kind ≠ 0) : left T (goS s) + 1 ≤ left T s := by
  obtain ⟨h0, h1⟩ := tok_range hk
  have hw : w64 (s.at_ + 1) = s.at_ + 1 := wrap_i64 (by omega) (by omega)
  have e1 : left T s = T.length - s.at_.toNat := by
    unfold left; rw [if_pos ⟨hf, h0, h1⟩]
  have e2 : left T (goS s) ≤ T.length - (s.at_ + 1).toNat := by
    unfold left
    simp only [goS, hw]
    split <;> omega
  omega
theorem left_is {T : List Tok} (hT : T.length ≤ 40000000) {s : St} {k : Int} {x : Bs} (hk0 : k ≠ 0) (h : isB T s k x = true) : left T (goS s) + 1 ≤ left T s := by
  obtain ⟨h1, h2, _⟩ := isB_kind h
  exact left_go hT h1 (by rw [h2]; exact hk0)
theorem left_wants {T : List Tok} (hT : T.length ≤ 40000000) (s : St) (x : Bs) : left T (wantsS T x s).2 ≤ left T s := by
  cases h : isB T s 4 x with
  | true => simp only [wantsS, h, cond_true]; have := left_is hT (by decide) h; omega
  | false => simp only [wantsS, h, cond_false]; exact left_fail s 2
theorem left_closes {T : List Tok} (hT : T.length ≤ 40000000) (s : St) (x : Bs) : left T (closesS T x s).2 ≤ left T s := left_wants hT (outS s) x
theorem left_wantN {T : List Tok} (hT : T.length ≤ 40000000) (x : Bs) : ∀ (n : Nat) (s : St), left T (wantN T x n s) ≤ left T s
  | 0, s => Nat.le_refl _
  | n + 1, s => Nat.le_trans (left_wantN hT x n _) (left_wants hT s x)
theorem left_ofL {T : List Tok} (hT : T.length ≤ 40000000) : ∀ (n : Nat) (d : Int) (s : St), (∀ d' s', ofL T n d s = .inl (d', s') → left T s' ≤ left T s) ∧ (∀ s', ofL T n d s = .inr s' → left T s' ≤ left T s)
  | 0, d, s => by
    cases h : isB T s 4 [91] with
    | true => simp only [ofL, h, cond_true]; exact ⟨by simp, by rintro _ ⟨⟩; exact left_fail s 4⟩
    | false => simp only [ofL, h, cond_false]; exact ⟨by rintro _ _ ⟨⟩; exact Nat.le_refl _, by simp⟩
  | n + 1, d, s => by
    cases h : isB T s 4 [91] with
    | true =>
      simp only [ofL, h, cond_true]
      obtain ⟨i1, i2⟩ := left_ofL hT n (d + 1) (goS s)
      have hg := left_is hT (by decide) h
      exact ⟨fun d' s' h' => by have := i1 d' s' h'; omega, fun s' h' => by have := i2 s' h'; omega⟩
    | false => simp only [ofL, h, cond_false]; exact ⟨by rintro _ _ ⟨⟩; exact Nat.le_refl _, by simp⟩
theorem left_ofE {T : List Tok} (hT : T.length ≤ 40000000) (d : Int) (s : St) : left T (ofE T d s).2 ≤ left T s := by
  by_cases hf : s.fe = 0
  · cases hc : ((tokAt T s.at_).kind != 1 && (!isB T s 3 [105, 110, 116] && !isB T s 3 [98, 111, 111, 108])) with
    | true => simp only [ofE, hc, cond_true]; exact left_fail s 2
    | false =>
      simp only [ofE, hc, cond_false]
      have hk : (tokAt T s.at_).kind ≠ 0 := by
        intro hk
        have h1 : ∀ x, isB T s 3 x = false := fun x => by simp [isB, hk]
        simp [hk, h1] at hc
      have := left_wantN hT [93] d.toNat (goS s)
      have := left_go hT hf hk
      omega
  · have hg : (goS s).fe ≠ 0 := hf
    simp only [ofE]
    cases ((tokAt T s.at_).kind != 1 && (!isB T s 3 [105, 110, 116] && !isB T s 3 [98, 111, 111, 108])) with
    | true => exact left_fail s 2
    | false => simp only [cond_false, wantN_failed _ hg, left_failed hg]; omega
theorem left_of {T : List Tok} (hT : T.length ≤ 40000000) (s : St) : left T (ofS T s).2 ≤ left T s := by
  obtain ⟨i1, i2⟩ := left_ofL hT 3 0 s
  simp only [ofS]
  cases h : ofL T 3 0 s with
  | inr s' => exact i2 s' h
  | inl p =>
    have := i1 p.1 p.2 h
    have := left_ofE hT p.1 p.2
    exact Nat.le_trans (left_ofE hT p.1 p.2) (i1 p.1 p.2 h)
def Both {α : Type} (T : List Tok) (s : St) (a b : Option (α × St)) : Prop := ∃ p q, a = some p ∧ b = some q ∧ Same p q ∧ left T p.2 ≤ left T s
def RowB (T : List Tok) (k : Nat) : Prop := ∀ (s : St), left T s ≤ k → ∀ (lev n n' : Nat), lev ≤ 5 → 30 * k + 20 ≤ n + lev → 30 * k + 20 ≤ n' + lev → Both T s (rowF T n lev s) (exprR T n' lev s)
theorem row_failed {T : List Tok} {s : St} (h : s.fe ≠ 0) (lev n n' : Nat) (hl : lev ≤ 5) (hn : 9 ≤ n + lev) (hn' : 9 ≤ n' + lev) : Both T s (rowF T n lev s) (exprR T n' lev s) :=
  ⟨_, _, rowF_failed h n lev hl hn, exprR_failed h n' lev hl hn', .inr ⟨h, rfl, rfl⟩, Nat.le_refl _⟩
end Go.Proofs.Ytnjoomfeddamcaa

namespace Go.Proofs.Ytnjoomfeddamcaa
open Go.Ev
theorem row_open {T : List Tok} (hT : T.length ≤ 40000000) {k : Nat} (ih : ∀ j, j < k → RowB T j) {s : St} (hf : s.fe = 0) (hs : left T s ≤ k) {x : Bs} (hx : kw x = 4) (lev n n' : Nat) (hl : lev ≤ 5) (hn : 30 * k + 9 ≤ n) (hn' : 30 * k + 9 ≤ n') :
    ((opensS T x s).1 = true ∧ left T (opensS T x s).2 + 1 ≤ left T s ∧ Both T (opensS T x s).2 (rowF T n lev (opensS T x s).2) (exprR T n' lev (opensR T x s))) ∨
    ((opensS T x s).1 = false ∧ (opensS T x s).2.fe ≠ 0 ∧ (opensR T x s).fe = (opensS T x s).2.fe ∧ (opensR T x s).fa = (opensS T x s).2.fa ∧ exprR T n' lev (opensR T x s) = some (deadE T (opensR T x s), opensR T x s)) := by
  rcases opens_same (T := T) hf hx with ⟨h1, h2, h3, h4⟩ | ⟨h1, h2, h3⟩
  · refine .inl ⟨h1, ?_, ?_⟩
    · rw [h3, left_in]; exact left_is hT (by decide) h2
    · have hg := left_is hT (by decide) h2
      rw [h3, h4]
      exact ih (k - 1) (by omega) _ (by rw [left_in]; omega) lev n n' hl (by omega) (by omega)
  · rcases h3 with ⟨h3, _⟩ | ⟨_, h4, h5⟩
    · exact absurd h3 h2
    · exact .inr ⟨h1, h2, h4, h5, exprR_failed (by rw [h4]; exact h2) n' lev hl (by omega)⟩
theorem single_both {T : List Tok} (hT : T.length ≤ 40000000) {k : Nat} (ih : ∀ j, j < k → RowB T j) {s : St} (hf : s.fe = 0) (hs : left T s ≤ k) (n n' : Nat) (hn : 30 * k + 9 ≤ n) (hn' : 30 * k + 9 ≤ n') : Both T s (singleF T (n + 1) [40] [41] s) (innerR T (n' + 1) s) := by
  rcases row_open hT ih hf hs (x := [40]) rfl 0 n n' (by omega) hn hn' with ⟨h1, h2, p, q, h3, h4, h5, h6⟩ | ⟨h1, h2, h3, h4, h5⟩
  · refine ⟨(p.1, (closesS T [41] p.2).2), (q.1, closesR T [41] q.2), ?_, ?_, ?_, ?_⟩
    · simp [singleF, h1, h3]
    · simp [innerR, h4]
    · rcases h5 with ⟨h, rfl⟩ | ⟨h, ha, hb⟩
      · exact Same.of (closes_same (.inl ⟨h, rfl⟩) rfl) fun _ => rfl
      · refine Same.of (closes_same (.inr ⟨h, ha, hb⟩) rfl) fun hc => absurd hc ?_
        have : (outS p.2).fe ≠ 0 := h
        simp only [closesS, wantsS, isB_failed this, cond_false, failS_failed this]
        exact h
    · have := left_closes hT p.2 [41]
      simp only
      omega
  · refine ⟨(.zero, (opensS T [40] s).2), _, by simp [singleF, h1], by simp only [innerR, h5]; rfl, ?_, ?_⟩
    · have hR : (opensR T [40] s).fe ≠ 0 := by rw [h3]; exact h2
      have hc := closes_same (T := T) (x := [41]) (SameS.refl (opensR T [40] s)) rfl
      refine .inr ⟨h2, ?_, ?_⟩ <;> simp [closesR, takeR, isR_failed hR, failS_failed hR, outS, h3, h4]
    · simp only [left_failed h2]; omega
end Go.Proofs.Ytnjoomfeddamcaa

namespace Go.Proofs.Ytnjoomfeddamcaa
open Go.Ev
theorem Both.le {α : Type} {T : List Tok} {s s0 : St} {a b : Option (α × St)} (h : Both T s a b) (hl : left T s ≤ left T s0) : Both T s0 a b := by
  obtain ⟨p, q, h1, h2, h3, h4⟩ := h
  exact ⟨p, q, h1, h2, h3, Nat.le_trans h4 hl⟩
theorem closes_failed {T : List Tok} {s : St} (h : s.fe ≠ 0) (x : Bs) : (closesS T x s).2.fe ≠ 0 := by
  have ho : (outS s).fe ≠ 0 := h
  simp only [closesS, wantsS, isB_failed ho, cond_false, failS_failed ho]
  exact h
theorem list_both {T : List Tok} (hT : T.length ≤ 40000000) {k : Nat} (ih : ∀ j, j < k → RowB T j) : ∀ (c n n' : Nat) (s s' : St) (l l' : List Ex), left T s ≤ c → c ≤ k → 30 * c + 10 ≤ n → 30 * c + 10 ≤ n' → SameS s s' → (s.fe = 0 → l' = l) → Both T s (listL T n l s) (argsRL T n' l' s')
  | c, 0, n', s, s', l, l', h1, h2, h3, h3', h4, h5 => by omega
  | c, n + 1, 0, s, s', l, l', h1, h2, h3, h3', h4, h5 => by omega
  | c, n + 1, n' + 1, s, s', l, l', h1, h2, h3, h3', h4, h5 => by
    by_cases hf : s.fe = 0
    · obtain ⟨_, rfl⟩ : s.fe = 0 ∧ s' = s := h4.resolve_right (by rintro ⟨h, _⟩; exact h hf)
      cases h5 hf
      have e1 : isR T s' [44] = isB T s' 4 [44] := rfl
      cases hb : isB T s' 4 [44] with
      | true =>
        have hg := left_is hT (by decide) hb
        obtain ⟨p, q, g1, g2, g3, g4⟩ := ih (c - 1) (by omega) (goS s') (by omega) 0 n n' (by omega) (by omega) (by omega)
        have := list_both hT ih (c - 1) n n' p.2 q.2 (l ++ [p.1]) (l ++ [q.1]) (by omega) (by omega) (by omega) (by omega) g3.st (fun hp => by
          rcases g3 with ⟨_, rfl⟩ | ⟨h, _⟩
          · rfl
          · exact absurd hp h)
        have := this.le (s0 := s') (by omega)
        simpa [listL, takesS, hb, argsRL, e1, g1, g2] using this
      | false =>
        refine ⟨(l, (closesS T [41] s').2), (l, closesR T [41] s'), by simp [listL, takesS, hb], by simp [argsRL, e1, hb], Same.of (closes_same (.refl _) rfl) fun _ => rfl, left_closes hT s' [41]⟩
    · have hf' : s'.fe ≠ 0 := by
        rcases h4 with ⟨h, _⟩ | ⟨_, h, _⟩
        · exact absurd h hf
        · rw [h]; exact hf
      refine ⟨(l, (closesS T [41] s).2), (l', closesR T [41] s'), by simp [listL, takesS, isB_failed hf], by simp [argsRL, isR_failed hf'], Same.of (closes_same h4 rfl) fun h => absurd h (closes_failed hf _), left_closes hT s [41]⟩
end Go.Proofs.Ytnjoomfeddamcaa

namespace Go.Proofs.Ytnjoomfeddamcaa
open Go.Ev
theorem args_both {T : List Tok} (hT : T.length ≤ 40000000) {k : Nat} (ih : ∀ j, j < k → RowB T j) {s : St} (hf : s.fe = 0) (hs : left T s ≤ k) (n n' : Nat) (hn : 30 * k + 10 ≤ n) (hn' : 30 * k + 10 ≤ n') : Both T s (listF T (n + 1) s) (argsR T (n' + 1) s) := by
  rcases opens_same (T := T) hf (x := [40]) rfl with ⟨h1, h2, h3, h4⟩ | ⟨h1, h2, h3⟩
  · have hg := left_is hT (by decide) h2
    have hl : left T (inS (goS s)) = left T (goS s) := rfl
    have hfo : (inS (goS s)).fe = 0 := hf
    have e1 : isR T (inS (goS s)) [41] = isB T (inS (goS s)) 4 [41] := rfl
    cases hb : isB T (inS (goS s)) 4 [41] with
    | true =>
      refine ⟨([], (closesS T [41] (inS (goS s))).2), ([], closesR T [41] (inS (goS s))), by simp [listF, h1, h3, hb], by simp [argsR, h4, e1, hb], Same.of (closes_same (.refl _) rfl) fun _ => rfl, ?_⟩
      have := left_closes hT (inS (goS s)) [41]
      simp only
      omega
    | false =>
      obtain ⟨p, q, g1, g2, g3, g4⟩ := ih (k - 1) (by omega) (inS (goS s)) (by omega) 0 n n' (by omega) (by omega) (by omega)
      have := list_both hT ih k n n' p.2 q.2 [p.1] [q.1] (by omega) (by omega) (by omega) (by omega) g3.st (fun hp => by
        rcases g3 with ⟨_, rfl⟩ | ⟨h, _⟩
        · rfl
        · exact absurd hp h)
      have := this.le (s0 := s) (by omega)
      simpa [listF, h1, h3, hb, argsR, h4, e1, g1, g2] using this
  · have h3' := h3.resolve_left (by rintro ⟨h, _⟩; exact h2 h)
    have hR : (opensR T [40] s).fe ≠ 0 := by rw [h3'.2.1]; exact h2
    have hx := exprR_failed (T := T) hR n' 0 (by omega) (by omega)
    have hL : ∀ l, argsRL T n' l (opensR T [40] s) = some (l, closesR T [41] (opensR T [40] s)) := fun l => by
      obtain ⟨n', rfl⟩ : ∃ m, n' = m + 1 := ⟨n' - 1, by omega⟩
      simp [argsRL, isR_failed hR]
    refine ⟨([], (opensS T [40] s).2), _, by simp [listF, h1], by simp only [argsR, isR_failed hR, cond_false, hx, Option.bind_some, hL]; rfl, ?_, ?_⟩
    · refine .inr ⟨h2, ?_, ?_⟩ <;> simp [closesR, takeR, isR_failed hR, failS_failed hR, outS, h3'.2.1, h3'.2.2]
    · simp only [left_failed h2]; omega
end Go.Proofs.Ytnjoomfeddamcaa

namespace Go.Proofs.Ytnjoomfeddamcaa
open Go.Ev
theorem rowL_both {T : List Tok} (hT : T.length ≤ 40000000) {k : Nat} (ih : ∀ j, j < k → RowB T j) {lev : Nat} (hlev : lev < 5) : ∀ (c n n' : Nat) (s s' : St) (e e' : Ex), left T s ≤ c → c ≤ k → 30 * c + 10 ≤ n → 30 * c + 10 ≤ n' → SameS s s' → (s.fe = 0 → e' = e) → Both T s (rowL T n lev e s) (exprRL T n' lev e' s')
  | c, 0, n', s, s', e, e', h1, h2, h3, h3', h4, h5 => by omega
  | c, n + 1, 0, s, s', e, e', h1, h2, h3, h3', h4, h5 => by omega
  | c, n + 1, n' + 1, s, s', e, e', h1, h2, h3, h3', h4, h5 => by
    by_cases hf : s.fe = 0
    · obtain ⟨_, rfl⟩ : s.fe = 0 ∧ s' = s := h4.resolve_right (by rintro ⟨h, _⟩; exact h hf)
      cases h5 hf
      have hk := kindS_levR (T := T) hf hlev
      have hb : (s'.fe == 0) = true := by simpa using hf
      by_cases hz : kindS T lev s' = 0
      · have hz' : (levR lev (tokAt T s'.at_) != 0) = false := by rw [← hk]; simpa using hz
        exact ⟨(e, s'), (e, s'), by simp [rowL, hz], by simp [exprRL, hb, hz'], .inl ⟨hf, rfl⟩, Nat.le_refl _⟩
      · have hz' : (levR lev (tokAt T s'.at_) != 0) = true := by rw [← hk]; simpa using hz
        have ht : (tokAt T s'.at_).kind ≠ 0 := by
          intro h0
          exact hz (kindL_other (by rw [h0]; decide) _)
        have hg := left_go hT hf ht
        obtain ⟨p, q, g1, g2, g3, g4⟩ := ih (c - 1) (by omega) (goS s') (by omega) (lev + 1) n n' (by omega) (by omega) (by omega)
        have := rowL_both hT ih hlev (c - 1) n n' p.2 q.2 (.mk { kind := kindS T lev s', pos := (tokAt T s'.at_).pos } [e, p.1]) (.mk { kind := levR lev (tokAt T s'.at_), pos := (tokAt T s'.at_).pos } [e, q.1]) (by omega) (by omega) (by omega) (by omega) g3.st (fun hp => by
          rcases g3 with ⟨_, rfl⟩ | ⟨h, _⟩
          · rw [hk]
          · exact absurd hp h)
        have := this.le (s0 := s') (by omega)
        simpa [rowL, hz, exprRL, hb, hz', g1, g2] using this
    · have hf' : s'.fe ≠ 0 := by
        rcases h4 with ⟨h, _⟩ | ⟨_, h, _⟩
        · exact absurd h hf
        · rw [h]; exact hf
      exact ⟨(e, s), (e', s'), rowL_failed hf (n + 1) (by omega) lev e, exprRL_failed hf' (n' + 1) (by omega) lev e', Same.of h4 fun h => absurd h hf, Nat.le_refl _⟩
end Go.Proofs.Ytnjoomfeddamcaa

namespace Go.Proofs.Ytnjoomfeddamcaa
open Go.Ev
theorem field_same {T : List Tok} {s : St} (hf : s.fe = 0) (e : Ex) : Same (fieldS T e s) (Ex.mk { kind := 5, name := (nameR T (goS s)).1, pos := (tokAt T s.at_).pos } [e], (nameR T (goS s)).2) := by
  have hg : (goS s).fe = 0 := hf
  by_cases hk : (tokAt T (goS s).at_).kind = 1
  · refine Or.inl ⟨?_, ?_⟩
    · have hb : ((tokAt T (goS s).at_).kind != 1) = false := by simp [hk]
      simp only [fieldS, hb, cond_false]; exact hf
    · simp [fieldS, nameR, hk, hg]
  · have hb : ((tokAt T (goS s).at_).kind == 1) = false := by simpa using hk
    have hb' : ((tokAt T (goS s).at_).kind != 1) = true := by simpa using hk
    have h2 := failS_fe (T := T) hg 2
    refine Or.inr ⟨?_, ?_, ?_⟩
    · simp only [fieldS, hb', cond_true]; show (failS T 2 (goS s)).fe ≠ 0; rw [h2.1]; decide
    · simp only [fieldS, nameR, hb, hb', cond_true, Bool.and_false, cond_false]; rfl
    · simp only [fieldS, nameR, hb, hb', cond_true, Bool.and_false, cond_false]; rfl
theorem left_field {T : List Tok} (hT : T.length ≤ 40000000) {s : St} (hf : s.fe = 0) (hk : (tokAt T s.at_).kind ≠ 0) (e : Ex) : left T (fieldS T e s).2 + 1 ≤ left T s := by
  have hg := left_go hT hf hk
  have hf' : (goS s).fe = 0 := hf
  by_cases hk' : (tokAt T (goS s).at_).kind = 1
  · have hb : ((tokAt T (goS s).at_).kind != 1) = false := by simp [hk']
    have := left_go hT hf' (by rw [hk']; decide)
    simp only [fieldS, hb, cond_false]
    omega
  · have hb : ((tokAt T (goS s).at_).kind != 1) = true := by simpa using hk'
    have h2 : (goS (failS T 2 (goS s))).fe ≠ 0 := by show (failS T 2 (goS s)).fe ≠ 0; rw [(failS_fe hf' 2).1]; decide
    simp only [fieldS, hb, cond_true, left_failed h2]
    omega
theorem chain_both {T : List Tok} (hT : T.length ≤ 40000000) {k : Nat} (ih : ∀ j, j < k → RowB T j) : ∀ (c n n' : Nat) (s s' : St) (e e' : Ex), left T s ≤ c → c ≤ k → 30 * c + 12 ≤ n → 30 * c + 12 ≤ n' → SameS s s' → (s.fe = 0 → e' = e) → Both T s (chainL T n e s) (behindR T n' e' s')
  | c, 0, n', s, s', e, e', h1, h2, h3, h3', h4, h5 => by omega
  | c, n + 1, 0, s, s', e, e', h1, h2, h3, h3', h4, h5 => by omega
  | c, n + 1, n' + 1, s, s', e, e', h1, h2, h3, h3', h4, h5 => by
    by_cases hf : s.fe = 0
    · obtain ⟨_, rfl⟩ : s.fe = 0 ∧ s' = s := h4.resolve_right (by rintro ⟨h, _⟩; exact h hf)
      cases h5 hf
      have hb : (s'.fe == 0) = true := by simpa using hf
      have e1 : isR T s' [46] = ((tokAt T s'.at_).kind == 4 && (tokAt T s'.at_).text == [46]) := by show isB T s' 4 [46] = _; simp only [isB, hb, Bool.true_and]
      have e2 : isR T s' [91] = ((tokAt T s'.at_).kind == 4 && (tokAt T s'.at_).text == [91]) := by show isB T s' 4 [91] = _; simp only [isB, hb, Bool.true_and]
      cases hk : (tokAt T s'.at_).kind == 4 with
      | false => exact ⟨(e, s'), (e, s'), by simp [chainL, hb, hk], by simp [behindR, e1, e2, hk], .inl ⟨hf, rfl⟩, Nat.le_refl _⟩
      | true =>
        have hk4 : (tokAt T s'.at_).kind = 4 := by simpa using hk
        cases hd : (tokAt T s'.at_).text == [46] with
        | true =>
          have hl := left_field hT hf (by rw [hk4]; decide) e
          have hs := field_same (T := T) hf e
          have := (chain_both hT ih (c - 1) n n' _ _ (fieldS T e s').1 _ (by omega) (by omega) (by omega) (by omega) hs.st (fun hp => by
            rcases hs with ⟨_, h⟩ | ⟨h, _⟩
            · exact congrArg Prod.fst h
            · exact absurd hp h)).le (s0 := s') (by omega)
          simpa [chainL, hb, hk, hd, behindR, e1] using this
        | false =>
          cases hq : (tokAt T s'.at_).text == [91] with
          | false => exact ⟨(e, s'), (e, s'), by simp [chainL, hb, hk, hd, hq], by simp [behindR, e1, e2, hk, hd, hq], .inl ⟨hf, rfl⟩, Nat.le_refl _⟩
          | true =>
            obtain ⟨n, rfl⟩ : ∃ m, n = m + 1 := ⟨n - 1, by omega⟩
            have ihc : ∀ j, j < c → RowB T j := fun j hj => ih j (by omega)
            rcases row_open hT ihc hf h1 (x := [91]) rfl 0 n n' (by omega) (by omega) (by omega) with ⟨o1, o2, p, q, o3, o4, o5, o6⟩ | ⟨o1, o2, o3, o4, o5⟩
            · have hcl := closes_same (T := T) (x := [93]) o5.st rfl
              have hlc := left_closes hT p.2 [93]
              have := (chain_both hT ih (c - 1) (n + 1) n' (closesS T [93] p.2).2 (closesR T [93] q.2) (.mk { kind := 6, pos := (tokAt T s'.at_).pos } [e, p.1]) (.mk { kind := 6, pos := (tokAt T s'.at_).pos } [e, q.1]) (by omega) (by omega) (by omega) (by omega) hcl (fun hp => by
                rcases o5 with ⟨_, rfl⟩ | ⟨h, _⟩
                · rfl
                · exact absurd hp (closes_failed h _))).le (s0 := s') (by omega)
              simpa [chainL, hb, hk, hd, hq, singleF, o1, o3, behindR, e1, e2, o4] using this
            · have hR : (opensR T [91] s').fe ≠ 0 := by rw [o3]; exact o2
              have hb2 : ((opensS T [91] s').2.fe == 0) = false := by simpa using o2
              have hc1 : (closesR T [93] (opensR T [91] s')) = outS (opensR T [91] s') := by simp [closesR, takeR, isR_failed hR, failS_failed hR]
              have hc2 : (outS (opensR T [91] s')).fe ≠ 0 := hR
              refine ⟨(.mk { kind := 6, pos := (tokAt T s'.at_).pos } [e, .zero], (opensS T [91] s').2), (.mk { kind := 6, pos := (tokAt T s'.at_).pos } [e, deadE T (opensR T [91] s')], outS (opensR T [91] s')), ?_, ?_, .inr ⟨o2, o3, o4⟩, ?_⟩
              · simp [chainL, hb, hk, hd, hq, singleF, o1, hb2]
              · simp [behindR, e1, e2, hk, hd, hq, o5, hc1, behindR_failed hc2 n' (by omega)]
              · simp only [left_failed o2]; omega
    · have hf' : s'.fe ≠ 0 := by
        rcases h4 with ⟨h, _⟩ | ⟨_, h, _⟩
        · exact absurd h hf
        · rw [h]; exact hf
      have hb : (s.fe == 0) = false := by simpa using hf
      exact ⟨(e, s), (e', s'), by simp [chainL, hb], behindR_failed hf' (n' + 1) (by omega) e', Same.of h4 fun h => absurd h hf, Nat.le_refl _⟩
end Go.Proofs.Ytnjoomfeddamcaa

namespace Go.Proofs.Ytnjoomfeddamcaa
open Go.Ev
theorem Both.pure {α : Type} {T : List Tok} {s : St} {p q : α × St} (h : Same p q) (hl : left T p.2 ≤ left T s) : Both T s (some p) (some q) := ⟨p, q, rfl, rfl, h, hl⟩
theorem Both.map {α β : Type} {T : List Tok} {s : St} {a b : Option (α × St)} (h : Both T s a b) (f : α → β) : Both T s (a.bind fun p => some (f p.1, p.2)) (b.bind fun p => some (f p.1, p.2)) := by
  obtain ⟨p, q, rfl, rfl, h3, h4⟩ := h
  refine ⟨(f p.1, p.2), (f q.1, q.2), rfl, rfl, ?_, h4⟩
  rcases h3 with ⟨h, rfl⟩ | ⟨h, h1, h2⟩
  · exact .inl ⟨h, rfl⟩
  · exact .inr ⟨h, h1, h2⟩
theorem name_both {T : List Tok} (hT : T.length ≤ 40000000) {k : Nat} (ih : ∀ j, j < k → RowB T j) {s : St} (hf : s.fe = 0) (hk : (tokAt T s.at_).kind = 1) (hs : left T s ≤ k) (n n' : Nat) (hn : 30 * k + 9 ≤ n) (hn' : 30 * k + 9 ≤ n') :
    Both T s (nameF T (n + 1) s) (bif isR T (nameR T s).2 [40] then (argsR T (n' + 1) (nameR T s).2).bind fun p => some (.mk { kind := 7, name := (nameR T s).1, pos := (tokAt T s.at_).pos } p.1, p.2) else some (.mk { kind := 4, name := (nameR T s).1, pos := (tokAt T s.at_).pos } [], (nameR T s).2)) := by
  have hN : nameR T s = ((tokAt T s.at_).text, goS s) := by simp [nameR, hf, hk]
  have hg := left_go hT hf (by rw [hk]; decide)
  have e1 : isR T (goS s) [40] = isB T (goS s) 4 [40] := rfl
  rw [hN]
  simp only [nameF, e1]
  cases isB T (goS s) 4 [40] with
  | true =>
    obtain ⟨n, rfl⟩ : ∃ m, n = m + 1 := ⟨n - 1, by omega⟩
    have := args_both hT (k := k - 1) (fun j hj => ih j (by omega)) (s := goS s) hf (by omega) n n' (by omega) (by omega)
    exact (this.map fun l => Ex.mk { kind := 7, name := (tokAt T s.at_).text, pos := (tokAt T s.at_).pos } l).le (by omega)
  | false => exact Both.pure (.inl ⟨hf, rfl⟩) (by simp only; omega)
theorem fresh_both {T : List Tok} (hT : T.length ≤ 40000000) {k : Nat} (ih : ∀ j, j < k → RowB T j) {s : St} (hf : s.fe = 0) (hk : (tokAt T s.at_).kind = 3) (hs : left T s ≤ k) (n n' : Nat) (hn : 30 * k + 9 ≤ n) (hn' : 30 * k + 9 ≤ n') :
    Both T s (freshF T (n + 1) s) (freshR T (n' + 1) (tokAt T s.at_).pos (goS s)) := by
  have hg := left_go hT hf (by rw [hk]; decide)
  have hfg : (goS s).fe = 0 := hf
  have e1 : isR T (goS s) [91] = isB T (goS s) 4 [91] := rfl
  simp only [freshF, freshR, e1]
  cases hb : isB T (goS s) 4 [91] with
  | true =>
    have hg2 := left_is hT (by decide) hb
    have ho := of_same T (goS (goS s))
    have hw := wants_same (T := T) (x := [93]) ho.st rfl
    have hl1 := left_of hT (goS (goS s))
    have hl2 := left_wants hT (ofS T (goS (goS s))).2 [93]
    simp only [cond_true]
    obtain ⟨n, rfl⟩ : ∃ m, n = m + 1 := ⟨n - 1, by omega⟩
    obtain ⟨n', rfl⟩ : ∃ m, n' = m + 1 := ⟨n' - 1, by omega⟩
    by_cases hp : (wantsS T [93] (ofS T (goS (goS s))).2).2.fe = 0
    · have hof : (ofS T (goS (goS s))).2.fe = 0 := by
        by_cases h : (ofS T (goS (goS s))).2.fe = 0
        · exact h
        · exact absurd hp (by simp only [wantsS, isB_failed h, cond_false, failS_failed h]; exact h)
      have hoe := (ho.resolve_right (by rintro ⟨h, _⟩; exact h hof)).2
      have hwe := (hw.resolve_right (by rintro ⟨h, _⟩; exact h hp)).2
      rw [hoe] at hwe
      rw [hoe, hwe]
      have := single_both hT (k := k - 1) (fun j hj => ih j (by omega)) (s := (wantsS T [93] (ofS T (goS (goS s))).2).2) hp (by omega) n n' (by omega) (by omega)
      exact (this.map fun e => Ex.mk { kind := 9, ofn := (ofS T (goS (goS s))).1.1, ofd := (ofS T (goS (goS s))).1.2, pos := (tokAt T s.at_).pos } [e]).le (by omega)
    · have hw' := hw.resolve_left (by rintro ⟨h, _⟩; exact hp h)
      have hR : (takeR T [93] (ofR T (goS (goS s))).2).fe ≠ 0 := by rw [hw'.2.1]; exact hp
      have hb1 : (opensS T [40] (wantsS T [93] (ofS T (goS (goS s))).2).2) = (false, (wantsS T [93] (ofS T (goS (goS s))).2).2) := by simp [opensS, isB_failed hp, failS_failed hp]
      have hb2 : opensR T [40] (takeR T [93] (ofR T (goS (goS s))).2) = inS (takeR T [93] (ofR T (goS (goS s))).2) := by
        simp only [opensR, isR_failed hR, Bool.false_and, cond_false]
        rw [takeR, isR_failed hR, cond_false, failS_failed hR]
      have hR2 : (inS (takeR T [93] (ofR T (goS (goS s))).2)).fe ≠ 0 := hR
      have hc : closesR T [41] (inS (takeR T [93] (ofR T (goS (goS s))).2)) = outS (inS (takeR T [93] (ofR T (goS (goS s))).2)) := by
        unfold closesR
        rw [takeR, isR_failed hR2, cond_false, failS_failed hR2]
      have hsf : singleF T (n + 1) [40] [41] (wantsS T [93] (ofS T (goS (goS s))).2).2 = some (.zero, (wantsS T [93] (ofS T (goS (goS s))).2).2) := by simp [singleF, hb1]
      have hin : innerR T (n' + 1) (takeR T [93] (ofR T (goS (goS s))).2) = some (deadE T (inS (takeR T [93] (ofR T (goS (goS s))).2)), outS (inS (takeR T [93] (ofR T (goS (goS s))).2))) := by
        simp only [innerR, hb2, exprR_failed hR2 n' 0 (by omega) (by omega), Option.bind_some, hc]
      simp only [hsf, hin, Option.bind_some]
      exact Both.pure (.inr ⟨hp, hw'.2.1, hw'.2.2⟩) (by simp only [left_failed hp]; omega)
  | false =>
    simp only [cond_false]
    by_cases hk' : (tokAt T (goS s).at_).kind = 1
    · have hb : ((tokAt T (goS s).at_).kind != 1) = false := by simp [hk']
      have := left_go hT hfg (by rw [hk']; decide)
      have e1' : nameR T (goS s) = ((tokAt T (goS s).at_).text, goS (goS s)) := by simp [nameR, hfg, hk']
      simp only [hb, cond_false, e1']
      exact Both.pure (.inl ⟨hf, rfl⟩) (by simp only; omega)
    · have hb : ((tokAt T (goS s).at_).kind == 1) = false := by simpa using hk'
      have hb' : ((tokAt T (goS s).at_).kind != 1) = true := by simpa using hk'
      have h2 := failS_fe (T := T) hfg 2
      have h3 : (goS (failS T 2 (goS s))).fe ≠ 0 := by show (failS T 2 (goS s)).fe ≠ 0; rw [h2.1]; decide
      simp only [hb', cond_true, nameR, hb, Bool.and_false, cond_false]
      exact Both.pure (.inr ⟨h3, rfl, rfl⟩) (by simp only [left_failed h3]; omega)
end Go.Proofs.Ytnjoomfeddamcaa

namespace Go.Proofs.Ytnjoomfeddamcaa
open Go.Ev
theorem isR_at {T : List Tok} {s : St} (hf : s.fe = 0) (x : Bs) : isR T s x = ((tokAt T s.at_).kind == kw x && (tokAt T s.at_).text == x) := by simp [isR, isB, hf]
theorem left_opens {T : List Tok} (hT : T.length ≤ 40000000) (s : St) (x : Bs) : left T (opensS T x s).2 ≤ left T s := by
  cases h : isB T s 4 x with
  | true =>
    simp only [opensS, h, cond_true]
    split
    · exact left_fail s 4
    · have := left_is hT (by decide) h
      have e : left T { s with at_ := w64 (s.at_ + 1), opn := w64 (s.opn + 1) } = left T (goS s) := rfl
      simp only [e]; omega
  | false => simp only [opensS, h, cond_false]; exact left_fail s 2
theorem read_same {T : List Tok} {s : St} (hf : s.fe = 0) : Same (readS T s) (Ex.mk { kind := 11, pos := (tokAt T s.at_).pos } [], closesR T [41] (opensR T [40] (goS s))) := by
  have hfg : (goS s).fe = 0 := hf
  simp only [readS]
  rcases opens_same (T := T) hfg (x := [40]) rfl with ⟨h1, h2, h3, h4⟩ | ⟨h1, h2, h3⟩
  · simp only [h1, h3, h4, cond_true]
    exact Same.of (closes_same (.refl _) rfl) fun _ => rfl
  · simp only [h1, cond_false]
    have h3' := h3.resolve_left (by rintro ⟨h, _⟩; exact h2 h)
    have hR : (opensR T [40] (goS s)).fe ≠ 0 := by rw [h3'.2.1]; exact h2
    refine .inr ⟨h2, ?_, ?_⟩ <;> simp [closesR, takeR, isR_failed hR, failS_failed hR, outS, h3'.2.1, h3'.2.2]
theorem left_read {T : List Tok} (hT : T.length ≤ 40000000) (s : St) : left T (readS T s).2 ≤ left T (goS s) := by
  have h1 := left_opens hT (goS s) [40]
  simp only [readS]
  cases (opensS T [40] (goS s)).1 with
  | true => simp only [cond_true]; have := left_closes hT (opensS T [40] (goS s)).2 [41]; omega
  | false => simp only [cond_false]; omega
theorem first_bad {T : List Tok} {s : St} (hf : s.fe = 0) (h1 : (tokAt T s.at_).kind ≠ 1) : nameR T s = ([], failS T 2 s) ∧ (failS T 2 s).fe ≠ 0 := by
  have hb : ((tokAt T s.at_).kind == 1) = false := by simpa using h1
  exact ⟨by simp [nameR, hb], by rw [(failS_fe hf 2).1]; decide⟩
theorem first_both {T : List Tok} (hT : T.length ≤ 40000000) {k : Nat} (ih : ∀ j, j < k → RowB T j) {s : St} (hf : s.fe = 0) (hs : left T s ≤ k) (n n' : Nat) (hn : 30 * k + 10 ≤ n) (hn' : 30 * k + 10 ≤ n') :
    Both T s (firstF T (n + 1) s) (firstR T (n' + 1) s) := by
  obtain ⟨n, rfl⟩ : ∃ m, n = m + 1 := ⟨n - 1, by omega⟩
  obtain ⟨n', rfl⟩ : ∃ m, n' = m + 1 := ⟨n' - 1, by omega⟩
  have hb : (s.fe == 0) = true := by simpa using hf
  have k1 : kw [116, 114, 117, 101] = 3 := rfl
  have k2 : kw [102, 97, 108, 115, 101] = 3 := rfl
  have k3 : kw [110, 117, 108, 108] = 3 := rfl
  have k4 : kw [110, 101, 119] = 3 := rfl
  have k5 : kw [108, 101, 110] = 3 := rfl
  have k6 : kw [114, 101, 97, 100] = 3 := rfl
  have k7 : kw [40] = 4 := rfl
  have hbad : (tokAt T s.at_).kind ≠ 1 → Both T s (some (Ex.zero, failS T 2 s)) (bif isR T (nameR T s).2 [40] then (argsR T (n' + 1) (nameR T s).2).bind fun p => some (.mk { kind := 7, name := (nameR T s).1, pos := (tokAt T s.at_).pos } p.1, p.2) else some (.mk { kind := 4, name := (nameR T s).1, pos := (tokAt T s.at_).pos } [], (nameR T s).2)) := by
    intro h1
    obtain ⟨e1, e2⟩ := first_bad (T := T) hf h1
    rw [e1]
    simp only [isR_failed e2, cond_false]
    exact Both.pure (.inr ⟨e2, rfl, rfl⟩) (left_fail s 2)
  by_cases h2 : (tokAt T s.at_).kind = 2
  · have := left_go hT hf (by rw [h2]; decide)
    simp only [firstF, firstR, hf, h2, ne_eq, not_true, if_false, if_true, beq_self_eq_true, Bool.and_self, cond_true]
    exact Both.pure (.inl ⟨hf, rfl⟩) (by simp only; omega)
  have b2 : ((tokAt T s.at_).kind == 2) = false := by simpa using h2
  by_cases h1 : (tokAt T s.at_).kind = 1
  · have := name_both hT ih hf h1 hs n n' (by omega) (by omega)
    have e31 : ((1 : Int) == 3) = false := rfl
    have e41 : ((1 : Int) == 4) = false := rfl
    have e21 : ((1 : Int) == 2) = false := rfl
    have e12 : ¬ ((1 : Int) = 2) := by decide
    simpa only [firstF, firstR, hf, h1, e12, ne_eq, not_true, if_false, if_true, beq_self_eq_true, Bool.and_false, Bool.true_and, e31, e41, e21, cond_false, isR_at hf, k1, k2, k3, k4, k5, k6, k7, Bool.false_and, Bool.or_self, or_true, true_or] using this
  by_cases h4 : (tokAt T s.at_).kind = 4
  · have e34 : ((4 : Int) == 3) = false := rfl
    have e24 : ((4 : Int) == 2) = false := rfl
    have e4a : ¬ ((4 : Int) = 2) := by decide
    have e4b : ¬ ((4 : Int) = 1) := by decide
    have e4c : ((4 : Int) = 3 ∨ (4 : Int) = 4) := .inr rfl
    cases ht : (tokAt T s.at_).text == [40] with
    | true =>
      have := single_both hT ih hf hs n n' (by omega) (by omega)
      simpa only [firstF, firstR, hf, h4, e4a, e4b, e4c, e34, e24, ht, ne_eq, not_true, if_false, if_true, beq_self_eq_true, Bool.and_false, Bool.true_and, cond_false, cond_true, isR_at hf, k1, k2, k3, k4, k5, k6, k7, Bool.false_and, Bool.or_self, or_true, true_or] using this
    | false =>
      have := hbad h1
      simpa only [firstF, firstR, hf, h4, e4a, e4b, e4c, e34, e24, ht, ne_eq, not_true, if_false, if_true, beq_self_eq_true, Bool.and_false, Bool.true_and, cond_false, cond_true, isR_at hf, k1, k2, k3, k4, k5, k6, k7, Bool.false_and, Bool.or_self, or_true, true_or] using this
  by_cases h3 : (tokAt T s.at_).kind = 3
  · have hg := left_go hT hf (by rw [h3]; decide)
    have hfg : (goS s).fe = 0 := hf
    have e43 : ((3 : Int) == 4) = false := rfl
    have e23 : ((3 : Int) == 2) = false := rfl
    have e3a : ¬ ((3 : Int) = 2) := by decide
    have e3b : ¬ ((3 : Int) = 1) := by decide
    have e3c : ((3 : Int) = 3 ∨ (3 : Int) = 4) := .inl rfl
    simp only [firstF, firstR, hf, h3, e3a, e3b, e3c, e43, e23, ne_eq, not_true, if_false, if_true, beq_self_eq_true, Bool.and_false, Bool.true_and, cond_false, cond_true, isR_at hf, k1, k2, k3, k4, k5, k6, k7, Bool.false_and]
    cases t1 : (tokAt T s.at_).text == [116, 114, 117, 101] || (tokAt T s.at_).text == [102, 97, 108, 115, 101] with
    | true => simp only [cond_true]; exact Both.pure (.inl ⟨hf, rfl⟩) (by simp only [truthS]; omega)
    | false =>
      cases t2 : (tokAt T s.at_).text == [110, 117, 108, 108] with
      | true =>
        simp only [cond_true, cond_false]
        have ho := of_same T (goS s)
        refine Both.pure ?_ (by have := left_of hT (goS s); simp only [nullS]; omega)
        refine Same.of ho.st fun h => ?_
        rw [(ho.resolve_right (by rintro ⟨h', _⟩; exact h' h)).2]
      | false =>
        cases t3 : (tokAt T s.at_).text == [110, 101, 119] with
        | true => simp only [cond_true, cond_false]; exact fresh_both hT ih hf h3 hs n n' (by omega) (by omega)
        | false =>
          cases t4 : (tokAt T s.at_).text == [108, 101, 110] with
          | true =>
            simp only [cond_true, cond_false]
            have := single_both hT (k := k - 1) (fun j hj => ih j (by omega)) (s := goS s) hfg (by omega) n n' (by omega) (by omega)
            exact (this.map fun e => Ex.mk { kind := 10, pos := (tokAt T s.at_).pos } [e]).le (by omega)
          | false =>
            cases t5 : (tokAt T s.at_).text == [114, 101, 97, 100] with
            | true =>
              simp only [cond_true, cond_false]
              exact Both.pure (read_same hf) (by have := left_read hT s; omega)
            | false => simp only [cond_false]; exact hbad h1
  · have b3 : ((tokAt T s.at_).kind == 3) = false := by simpa using h3
    have b4 : ((tokAt T s.at_).kind == 4) = false := by simpa using h4
    have := hbad h1
    simpa only [firstF, firstR, hf, h1, h2, h3, h4, b2, b3, b4, ne_eq, not_true, if_false, if_true, beq_self_eq_true, Bool.and_false, Bool.true_and, cond_false, cond_true, isR_at hf, k1, k2, k3, k4, k5, k6, k7, Bool.false_and, Bool.or_self, or_self] using this
theorem unary_both {T : List Tok} (hT : T.length ≤ 40000000) {k : Nat} (ih : ∀ j, j < k → RowB T j) {s : St} (hf : s.fe = 0) (hs : left T s ≤ k) (n n' : Nat) (hn : 30 * k + 14 ≤ n) (hn' : 30 * k + 14 ≤ n') :
    Both T s (unaryF T n s) (unaryR T n' s) := by
  obtain ⟨n, rfl⟩ : ∃ m, n = m + 1 := ⟨n - 1, by omega⟩
  obtain ⟨n', rfl⟩ : ∃ m, n' = m + 1 := ⟨n' - 1, by omega⟩
  have e1 : isR T s [45] = isB T s 4 [45] := rfl
  have e2 : isR T s [33] = isB T s 4 [33] := rfl
  have hsign : ∀ (x : Bs) (kd : Int), kw x = 4 → isB T s 4 x = true → Both T s (signF T n x kd s) (signR T n' kd s) := by
    intro x kd hx hi
    obtain ⟨n, rfl⟩ : ∃ m, n = m + 1 := ⟨n - 1, by omega⟩
    obtain ⟨n', rfl⟩ : ∃ m, n' = m + 1 := ⟨n' - 1, by omega⟩
    have ht : (tokAt T s.at_).text = x := (isB_kind hi).2.2
    simp only [signF, signR, ht]
    rcases row_open hT ih hf hs hx 5 (n + 1) n' (by omega) (by omega) (by omega) with ⟨h1, h2, p, q, h3, h4, h5, h6⟩ | ⟨h1, h2, h3, h4, h5⟩
    · have h3' : unaryF T n (opensS T x s).2 = some p := by rw [rowF] at h3; exact h3
      simp only [h1, h3', h4, Option.bind_some, cond_true]
      refine Both.pure ?_ (by rw [left_out]; omega)
      refine Same.of h5.st.out fun h => ?_
      rw [(h5.resolve_right (by rintro ⟨h', _⟩; exact h' h)).2]
    · simp only [h1, h5, Option.bind_some, cond_false]
      exact Both.pure (.inr ⟨h2, h3, h4⟩) (by simp only [left_failed h2]; omega)
  simp only [unaryF, unaryR, e1, e2]
  cases i1 : isB T s 4 [45] with
  | true => simp only [cond_true]; exact hsign [45] 12 rfl i1
  | false =>
    cases i2 : isB T s 4 [33] with
    | true => simp only [cond_true, cond_false]; exact hsign [33] 13 rfl i2
    | false =>
      simp only [cond_false]
      obtain ⟨n, rfl⟩ : ∃ m, n = m + 2 := ⟨n - 2, by omega⟩
      obtain ⟨n', rfl⟩ : ∃ m, n' = m + 1 := ⟨n' - 1, by omega⟩
      obtain ⟨p, q, h3, h4, h5, h6⟩ := first_both hT ih hf hs n n' (by omega) (by omega)
      have := (chain_both hT ih k (n + 1) (n' + 1) p.2 q.2 p.1 q.1 (by omega) (by omega) (by omega) (by omega) h5.st (fun h => by
        rw [(h5.resolve_right (by rintro ⟨h', _⟩; exact h' h)).2])).le h6
      rw [chainF]
      simpa only [h3, h4, Option.bind_some] using this
theorem row_both {T : List Tok} (hT : T.length ≤ 40000000) {k : Nat} (ih : ∀ j, j < k → RowB T j) {s : St} (hf : s.fe = 0) (hs : left T s ≤ k) : ∀ (j lev n n' : Nat), lev + j = 5 → 30 * k + 20 ≤ n + lev → 30 * k + 20 ≤ n' + lev → Both T s (rowF T n lev s) (exprR T n' lev s)
  | 0, lev, n, n', hl, hn, hn' => by
    obtain rfl : lev = 5 := by omega
    obtain ⟨n, rfl⟩ : ∃ m, n = m + 1 := ⟨n - 1, by omega⟩
    obtain ⟨n', rfl⟩ : ∃ m, n' = m + 1 := ⟨n' - 1, by omega⟩
    simp only [rowF, exprR, if_true]
    exact unary_both hT ih hf hs n n' (by omega) (by omega)
  | j + 1, lev, n, n', hl, hn, hn' => by
    have h5 : ¬ lev = 5 := by omega
    obtain ⟨n, rfl⟩ : ∃ m, n = m + 1 := ⟨n - 1, by omega⟩
    obtain ⟨n', rfl⟩ : ∃ m, n' = m + 1 := ⟨n' - 1, by omega⟩
    obtain ⟨p, q, g1, g2, g3, g4⟩ := row_both hT ih hf hs j (lev + 1) n n' (by omega) (by omega) (by omega)
    have := (rowL_both hT ih (lev := lev) (by omega) k n n' p.2 q.2 p.1 q.1 (by omega) (by omega) (by omega) (by omega) g3.st (fun h => by
      rw [(g3.resolve_right (by rintro ⟨h', _⟩; exact h' h)).2])).le g4
    simpa only [rowF, exprR, h5, if_false, g1, g2, Option.bind_some] using this
theorem rows_both {T : List Tok} (hT : T.length ≤ 40000000) : ∀ k, RowB T k := by
  intro k
  induction k using Nat.strongRecOn with
  | _ k ih =>
    intro s hs lev n n' hl hn hn'
    by_cases hf : s.fe = 0
    · exact row_both hT ih hf hs (5 - lev) lev n n' (by omega) hn hn'
    · exact row_failed hf lev n n' hl (by omega) (by omega)
end Go.Proofs.Ytnjoomfeddamcaa

