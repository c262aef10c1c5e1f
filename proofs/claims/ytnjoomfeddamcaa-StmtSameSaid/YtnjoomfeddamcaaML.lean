/-
  Texts of one proof, laid together: Z12 Zb Sk ShS U1 U2 U3 U4.
-/
import Derived.Test.YtnjoomfeddamcaaMG
import Derived.Test.YtnjoomfeddamcaaMK
import Derived.Test.YtnjoomfeddamcaaMH
import Derived.Test.YtnjoomfeddamcaaMD
import Derived.Test.YtnjoomfeddamcaaMF
import Derived.Test.YtnjoomfeddamcaaMJ
set_option linter.unusedVariables false
set_option linter.unusedSimpArgs false
namespace Go.Proofs.Ytnjoomfeddamcaa
open Go.Ev
theorem Sm.leaf {B : Nat} (a : Ea) : Sm B (.mk a []) := by rw [Sm, SmL]; exact ⟨Nat.zero_le _, trivial⟩
theorem Sm.one {B : Nat} (hB : 2 ≤ B) (a : Ea) {e : Ex} (h : Sm B e) : Sm B (.mk a [e]) := by
 rw [Sm, SmL, SmL]; exact ⟨by simp; omega, h, trivial⟩
theorem Sm.two {B : Nat} (hB : 2 ≤ B) (a : Ea) {e f : Ex} (h : Sm B e) (h' : Sm B f) : Sm B (.mk a [e, f]) := by
 rw [Sm, SmL, SmL, SmL]; exact ⟨by simp; omega, h, h', trivial⟩
theorem SmL.append {B : Nat} {e : Ex} (h : Sm B e) : ∀ {l : List Ex}, SmL B l → SmL B (l ++ [e])
 | [], _ => by simp only [List.nil_append]; rw [SmL, SmL]; exact ⟨h, trivial⟩
 | x :: xs, hl => by
  rw [SmL] at hl
  simp only [List.cons_append]
  rw [SmL]; exact ⟨hl.1, SmL.append h hl.2⟩
structure SmAll (T : List Tok) (B n : Nat) : Prop where
 row : ∀ lev s p, rowF T n lev s = some p → Sm B p.1
 rowL : ∀ lev e s p, Sm B e → rowL T n lev e s = some p → Sm B p.1
 unary : ∀ s p, unaryF T n s = some p → Sm B p.1
 sign : ∀ x k s p, signF T n x k s = some p → Sm B p.1
 chain : ∀ s p, chainF T n s = some p → Sm B p.1
 chainL : ∀ e s p, Sm B e → chainL T n e s = some p → Sm B p.1
 single : ∀ b c s p, singleF T n b c s = some p → Sm B p.1
 first : ∀ s p, firstF T n s = some p → Sm B p.1
 name : ∀ s p, nameF T n s = some p → Sm B p.1
 fresh : ∀ s p, freshF T n s = some p → Sm B p.1
 list : ∀ s p, listF T n s = some p → p.1.length ≤ B ∧ SmL B p.1
 listL : ∀ l s p, l.length + n ≤ B → SmL B l → listL T n l s = some p → p.1.length ≤ B ∧ SmL B p.1
theorem bindS {α β : Type} {x : Option α} {f : α → Option β} {b : β} (h : x.bind f = some b) : ∃ a, x = some a ∧ f a = some b := Option.bind_eq_some_iff.1 h
theorem sm_all (T : List Tok) (B : Nat) : ∀ n, n + 2 ≤ B → SmAll T B n
 | 0, _ => by
  constructor <;> intros <;> rename_i h <;> cases h
 | n + 1, hB => by
  have ih := sm_all T B n (by omega)
  have h2 : 2 ≤ B := by omega
  refine ⟨?_, ?_, ?_, ?_, ?_, ?_, ?_, ?_, ?_, ?_, ?_, ?_⟩
  ·intro lev s p h
   simp only [rowF] at h
   split at h
   ·exact ih.unary _ _ h
   ·obtain ⟨q, g1, g2⟩ := bindS h
    exact ih.rowL _ _ _ _ (ih.row _ _ _ g1) g2
  ·intro lev e s p he h
   simp only [Go.Proofs.Ytnjoomfeddamcaa.rowL] at h
   split at h
   ·cases h; exact he
   ·obtain ⟨q, g1, g2⟩ := bindS h
    exact ih.rowL _ _ _ _ (Sm.two h2 _ he (ih.row _ _ _ g1)) g2
  ·intro s p h
   simp only [unaryF, Bool.cond_eq_ite] at h
   split at h
   ·exact ih.sign _ _ _ _ h
   ·split at h
    ·exact ih.sign _ _ _ _ h
    ·exact ih.chain _ _ h
  ·intro x k s p h
   simp only [signF, Bool.cond_eq_ite] at h
   split at h
   ·obtain ⟨q, g1, g2⟩ := bindS h
    cases g2
    exact Sm.one h2 _ (ih.unary _ _ g1)
   ·cases h; exact Sm.leaf _
  ·intro s p h
   simp only [chainF] at h
   obtain ⟨q, g1, g2⟩ := bindS h
   exact ih.chainL _ _ _ (ih.first _ _ g1) g2
  ·intro e s p he h
   simp only [Go.Proofs.Ytnjoomfeddamcaa.chainL, Bool.cond_eq_ite] at h
   split at h
   ·split at h
    ·exact ih.chainL _ _ _ (Sm.one h2 _ he) h
    ·split at h
     ·obtain ⟨q, g1, g2⟩ := bindS h
      exact ih.chainL _ _ _ (Sm.two h2 _ he (ih.single _ _ _ _ g1)) g2
     ·cases h; exact he
   ·cases h; exact he
  ·intro b c s p h
   simp only [singleF, Bool.cond_eq_ite] at h
   split at h
   ·obtain ⟨q, g1, g2⟩ := bindS h
    cases g2
    exact ih.row _ _ q g1
   ·cases h; exact Sm.leaf _
  ·intro s p h
   simp only [firstF, Bool.cond_eq_ite] at h
   split at h
   ·cases h; exact Sm.leaf _
   ·split at h
    ·cases h; exact Sm.leaf _
    ·split at h
     ·exact ih.name _ _ h
     ·split at h
      ·split at h
       ·split at h
        ·exact ih.single _ _ _ _ h
        ·cases h; exact Sm.leaf _
       ·split at h
        ·cases h; exact Sm.leaf _
        ·split at h
         ·cases h; exact Sm.leaf _
         ·split at h
          ·exact ih.fresh _ _ h
          ·split at h
           ·obtain ⟨q, g1, g2⟩ := bindS h
            cases g2
            exact Sm.one h2 _ (ih.single _ _ _ _ g1)
           ·split at h
            ·cases h; exact Sm.leaf _
            ·cases h; exact Sm.leaf _
      ·cases h; exact Sm.leaf _
  ·intro s p h
   simp only [nameF, Bool.cond_eq_ite] at h
   split at h
   ·obtain ⟨q, g1, g2⟩ := bindS h
    cases g2
    rw [Sm]; exact ih.list _ _ g1
   ·cases h; exact Sm.leaf _
  ·intro s p h
   simp only [freshF, Bool.cond_eq_ite] at h
   split at h
   ·obtain ⟨q, g1, g2⟩ := bindS h
    cases g2
    exact Sm.one h2 _ (ih.single _ _ _ _ g1)
   ·cases h; exact Sm.leaf _
  ·intro s p h
   simp only [listF, Bool.cond_eq_ite] at h
   split at h
   ·split at h
    ·cases h; exact ⟨Nat.zero_le _, by rw [SmL]; trivial⟩
    ·obtain ⟨q, g1, g2⟩ := bindS h
     exact ih.listL _ _ _ (by simp; omega) (by rw [SmL, SmL]; exact ⟨ih.row _ _ _ g1, trivial⟩) g2
   ·cases h; exact ⟨Nat.zero_le _, by rw [SmL]; trivial⟩
  ·intro l s p hl hsm h
   simp only [Go.Proofs.Ytnjoomfeddamcaa.listL, Bool.cond_eq_ite] at h
   split at h
   ·obtain ⟨q, g1, g2⟩ := bindS h
    exact ih.listL _ _ _ (by simp; omega) (SmL.append (ih.row _ _ _ g1) hsm) g2
   ·cases h; exact ⟨by show l.length ≤ B; omega, hsm⟩
end Go.Proofs.Ytnjoomfeddamcaa

namespace Go.Proofs.Ytnjoomfeddamcaa
open Go.Ev
theorem left_le (T : List Tok) (s : St) : left T s ≤ T.length := by unfold left; split <;> omega
theorem both_read {T : List Tok} (hT : T.length ≤ 20000000) (at_ opn : Int) : ∃ e s e' s', rowF T 800000000 0 (startS at_ opn) = some (e, s) ∧ exprR T 800000000 0 (startS at_ opn) = some (e', s') ∧ parseS e' s' = parseS e s ∧ Sm 1000000000 (parseS e s).1 := by
 obtain ⟨p, q, h1, h2, h3, h4⟩ := rows_both (T := T) (by omega) T.length (startS at_ opn) (left_le _ _) 0 800000000 800000000 (by omega) (by omega) (by omega)
 refine ⟨p.1, p.2, q.1, q.2, h1, h2, ?_, ?_⟩
 ·rcases h3 with ⟨h, rfl⟩ | ⟨h, ha, hb⟩
  ·rfl
  ·have h' : ¬ q.2.fe = 0 := by rw [ha]; exact h
   simp only [parseS, if_neg h, if_neg h', ha, hb]
 ·unfold parseS
  split
  ·exact (sm_all T 1000000000 800000000 (by omega)).row _ _ _ h1
  ·exact Sm.leaf _
end Go.Proofs.Ytnjoomfeddamcaa

namespace Go.Proofs.Ytnjoomfeddamcaa
open Go.Ev
theorem smE (T : List Tok) (s : St) : Sm 1000000000 (exprP T s).1 := by
 unfold exprP
 split
 ·exact Sm.leaf _
 ·split
  ·rename_i e s' h
   split
   ·exact (sm_all T 1000000000 800000000 (by omega)).row _ _ (e, s') h
   ·exact Sm.leaf _
  ·exact Sm.leaf _
theorem SmMs.append {B : Nat} {e : Stm} (h : SmM B e) : ∀ {l : List Stm}, SmMs B l → SmMs B (l ++ [e])
 | [], _ => by rw [List.nil_append, SmMs, SmMs]; exact ⟨h, trivial⟩
 | x :: xs, hl => by
  rw [SmMs] at hl
  rw [List.cons_append, SmMs]
  exact ⟨hl.1, SmMs.append h hl.2⟩
theorem smM1 (a : Sa) {e : Ex} (h : Sm 1000000000 e) : SmM 1000000000 (.mk a [e] [] []) := by
 rw [SmM, SmL, SmL, SmMs]; exact ⟨⟨by simp, h, trivial⟩, ⟨by simp, trivial⟩, ⟨by simp, trivial⟩⟩
theorem smM0 (a : Sa) : SmM 1000000000 (.mk a [] [] []) := by
 rw [SmM, SmL, SmMs]; exact ⟨⟨by simp, trivial⟩, ⟨by simp, trivial⟩, ⟨by simp, trivial⟩⟩
theorem smMat {e : Stm} (p : Int) (h : SmM 1000000000 e) : SmM 1000000000 (e.at p) := by
 cases e; rw [Stm.at, SmM]; rw [SmM] at h; exact h
structure SmK (T : List Tok) (n : Nat) : Prop where
 stmt : ∀ s x, stmtF T n s = some x → SmM 1000000000 x.1
 block : ∀ s x, blockF T n s = some x → x.1.length ≤ 1000000000 ∧ SmMs 1000000000 x.1
 loop : ∀ l s x, untilF T n l s = some x → l.length + n ≤ 1000000000 → SmMs 1000000000 l → x.1.length ≤ 1000000000 ∧ SmMs 1000000000 x.1
 choose : ∀ s x, chooseF T n s = some x → SmM 1000000000 x.1
 rep : ∀ s x, repeatF T n s = some x → SmM 1000000000 x.1
theorem smK (T : List Tok) : ∀ n, n + 2 ≤ 1000000000 → SmK T n
 | 0, _ => ⟨fun _ _ h => (by cases h), fun _ _ h => (by cases h), fun _ _ _ h => (by cases h), fun _ _ h => (by cases h), fun _ _ h => (by cases h)⟩
 | n + 1, hn => by
  have ih := smK T n (by omega)
  refine ⟨fun s x h => ?_, fun s x h => ?_, fun l s x h hl hs => ?_, fun s x h => ?_, fun s x h => ?_⟩
  ·rw [stmtF] at h
   obtain ⟨p, h1, h2⟩ := bindS h
   cases h2
   refine smMat _ ?_
   have hplain : SmM 1000000000 (plainS T s).1 := by
    unfold plainS
    cases isB T (exprP T s).2 4 [61] with
    | false => exact smM1 _ (smE _ _)
    | true =>
     simp only [cond_true, setsS]
     cases (exprP T s).1.kind == 4 with
     | true => exact smM1 _ (smE _ _)
     | false =>
      simp only [cond_false]
      rw [SmM, SmL, SmL, SmL, SmMs]
      exact ⟨⟨by simp, smE _ _, smE _ _, trivial⟩, ⟨by simp, trivial⟩, ⟨by simp, trivial⟩⟩
   revert h1
   cases (tokAt T s.at_).kind == 3 with
   | false => intro h1; cases h1; exact hplain
   | true =>
    simp only [cond_true]
    cases (tokAt T s.at_).text == [118, 97, 114] with
    | true => intro h1; cases h1; exact smM0 _
    | false =>
    simp only [cond_false]
    cases (tokAt T s.at_).text == [108, 101, 116] with
    | true => intro h1; cases h1; exact smM1 _ (smE _ _)
    | false =>
    simp only [cond_false]
    cases (tokAt T s.at_).text == [105, 102] with
    | true => exact fun h1 => ih.choose _ _ h1
    | false =>
    simp only [cond_false]
    cases (tokAt T s.at_).text == [119, 104, 105, 108, 101] with
    | true => exact fun h1 => ih.rep _ _ h1
    | false =>
    simp only [cond_false]
    cases (tokAt T s.at_).text == [114, 101, 116, 117, 114, 110] with
    | true =>
     intro h1; cases h1
     unfold retsS
     cases isB T (goS s) 4 [59] with
     | true => exact smM0 _
     | false => exact smM1 _ (smE _ _)
    | false =>
    simp only [cond_false]
    cases (tokAt T s.at_).text == [112, 114, 105, 110, 116] with
    | true => intro h1; cases h1; exact smM1 _ (smE _ _)
    | false => intro h1; cases h1; exact hplain
  ·rw [blockF] at h
   have h0 : ∀ {l : List Stm}, l = [] → l.length ≤ 1000000000 ∧ SmMs 1000000000 l := fun {l} h => by rw [h, SmMs]; exact ⟨by simp, trivial⟩
   revert h
   cases isB T s 4 [123] with
   | false => intro h; cases h; exact h0 rfl
   | true =>
    simp only [cond_true]
    split
    ·intro h; cases h; exact h0 rfl
    ·intro h
     obtain ⟨p, h1, h2⟩ := bindS h
     cases h2
     exact ih.loop [] _ p h1 (by simp; omega) (by rw [SmMs]; trivial)
  ·rw [untilF] at h
   revert h
   cases (s.fe == 0 && !isB T s 4 [125]) with
   | false => intro h; cases h; exact ⟨by show l.length ≤ 1000000000; omega, hs⟩
   | true =>
    intro h
    obtain ⟨p, h1, h2⟩ := bindS h
    exact ih.loop _ _ _ h2 (by simp; omega) (SmMs.append (ih.stmt _ _ h1) hs)
  ·rw [chooseF] at h
   obtain ⟨p, h1, h2⟩ := bindS h
   obtain ⟨b1, b2⟩ := ih.block _ _ h1
   revert h2
   cases isB T p.2 3 [101, 108, 115, 101] with
   | false =>
    intro h2; cases h2
    rw [SmM, SmL, SmL]
    exact ⟨⟨by simp, smE _ _, trivial⟩, ⟨b1, b2⟩, ⟨by simp, by rw [SmMs]; trivial⟩⟩
   | true =>
    intro h2
    obtain ⟨q, h3, h4⟩ := bindS h2
    cases h4
    rw [SmM, SmL, SmL]
    exact ⟨⟨by simp, smE _ _, trivial⟩, ⟨b1, b2⟩, ih.block _ _ h3⟩
  ·rw [repeatF] at h
   obtain ⟨p, h1, h2⟩ := bindS h
   cases h2
   obtain ⟨b1, b2⟩ := ih.block _ _ h1
   rw [SmM, SmL, SmL]
   exact ⟨⟨by simp, smE _ _, trivial⟩, ⟨b1, b2⟩, ⟨by simp, by rw [SmMs]; trivial⟩⟩
end Go.Proofs.Ytnjoomfeddamcaa

namespace Go.Proofs.Ytnjoomfeddamcaa
open Go.Ev
set_option maxRecDepth 100000
noncomputable section
def s76 (G : CallT) (x0 : AV) (H : AHeap) : O :=
 xalloc H [(.int .i64 0), (.str []), (.int .i64 0), (.int .i64 0)] fun x2 h1 =>
 xb (anil x0) fun x4 =>
 xb (afieldAddr P 85 x4 1) fun x5 =>
 xb (aload P h1 3 x5) fun x6 =>
 xb (fbin P .lss 3 true x6 (.int .i64 0)) fun x7 =>
 xg x7 false h1 (qv x0) fun x9 h2 =>
 xg x7 false h2 (qp (anil x9)) fun x10 h3 =>
 xg x7 false h3 (qp (afieldAddr P 85 x10 1)) fun x11 h4 =>
 xg x7 false h4 (qr (aload P h4 3 x11)) fun x12 h5 =>
 xg x7 false h5 (qv x0) fun x13 h6 =>
 xg x7 false h6 (qp (anil x13)) fun x14 h7 =>
 xg x7 false h7 (qp (afieldAddr P 85 x14 0)) fun x15 h8 =>
 xg x7 false h8 (qr (aload P h8 22 x15)) fun x16 h9 =>
 xg x7 false h9 (fun q => xboth (abuiltin P .empty .len [22] [x16]) (abuiltin P h9 .len [22] [x16]) q) fun x17 h10 =>
 xg x7 false h10 (qp (fbin P .geq 3 false x12 x17)) fun x18 h11 =>
 xb (pickOf x7 (some (.bool true)) (some x18)) fun x19 =>
 xif (some x19) (xstore h11 (astore P h11 65 x2 (.agg [(.int .i64 0), (.str []), (.int .i64 0), (.int .i64 0)])) fun h12 =>
 xb (aload P h12 65 x2) fun r =>
 some (r, h12)) (xb (anil x0) fun x22 =>
 xb (afieldAddr P 85 x22 0) fun x23 =>
 xb (aload P h11 22 x23) fun x24 =>
 xb (anil x0) fun x26 =>
 xb (afieldAddr P 85 x26 1) fun x27 =>
 xb (aload P h11 3 x27) fun x28 =>
 xb (aindexAddr P 22 x24 x28) fun x29 =>
 xb (aload P h11 65 x29) fun x30 =>
 xstore h11 (astore P h11 65 x2 x30) fun h12 =>
 xb (aload P h12 65 x2) fun r =>
 some (r, h12))
theorem s76_eq (G : CallT) (N : Nat) (x0 : AV) (H : AHeap) : cF Try.f76 G N (argsF [x0]) H = s76 G x0 H := by
 refine via_top (A := cF Try.f76 G N) (via_leaf _) ?_
 delta s76
 kernel_rfl
theorem run76 (N : Nat) {x0 : AV} {H : AHeap} {r : AV × AHeap} (h : s76 (evw P) x0 H = some r) : evw P 76 [x0] H = some r :=
 runF Try.func76 (by kernel_rfl) (by kernel_rfl) (by kernel_rfl) ((s76_eq (evw P) N x0 H).trans h)
def s49 (G : CallT) (x0 : AV) (H : AHeap) : O :=
 xb (anil x0) fun x4 =>
 xb (afieldAddr P 85 x4 3) fun x5 =>
 xb (afieldAddr P 25 x5 0) fun x6 =>
 xb (aload P H 23 x6) fun x7 =>
 xb (fbin P .neq 23 true x7 (.int .i64 0)) fun x8 =>
 some (x8, H)
theorem s49_eq (G : CallT) (N : Nat) (x0 : AV) (H : AHeap) : cF Try.f49 G N (argsF [x0]) H = s49 G x0 H := by
 refine via_top (A := cF Try.f49 G N) (via_leaf _) ?_
 delta s49
 kernel_rfl
theorem run49 (N : Nat) {x0 : AV} {H : AHeap} {r : AV × AHeap} (h : s49 (evw P) x0 H = some r) : evw P 49 [x0] H = some r :=
 runF Try.func49 (by kernel_rfl) (by kernel_rfl) (by kernel_rfl) ((s49_eq (evw P) N x0 H).trans h)
def s87 (G : CallT) (x0 x1 : AV) (H : AHeap) : O :=
 xcall H (G 49 [x0] H) fun x5 h1 =>
 xb (aun .not x5) fun x6 =>
 xif (some x6) (xcall h1 (G 76 [x0] h1) fun x10 h2 =>
 xb (afield P 65 x10 3) fun x11 =>
 xb (abuild P 25 [(0, x1), (1, x11)]) fun x12 =>
 xb (anil x0) fun x13 =>
 xb (afieldAddr P 85 x13 3) fun x14 =>
 xstore h2 (astore P h2 25 x14 x12) fun h3 =>
 some (.tuple [], h3)) (some (.tuple [], h1))
theorem s87_eq (G : CallT) (N : Nat) (x0 : AV) (x1 : AV) (H : AHeap) : cF Try.f87 G N (argsF [x0, x1]) H = s87 G x0 x1 H := by
 refine via_top (A := cF Try.f87 G N) (via_leaf _) ?_
 delta s87
 kernel_rfl
theorem run87 (N : Nat) {x0 x1 : AV} {H : AHeap} {r : AV × AHeap} (h : s87 (evw P) x0 x1 H = some r) : evw P 87 [x0, x1] H = some r :=
 runF Try.func87 (by kernel_rfl) (by kernel_rfl) (by kernel_rfl) ((s87_eq (evw P) N x0 x1 H).trans h)
def s86 (G : CallT) (x0 x1 x2 : AV) (H : AHeap) : O :=
 xcall H (G 76 [x0] H) fun x9 h1 =>
 xalloc h1 [(.int .i64 0), (.str []), (.int .i64 0), (.int .i64 0)] fun x7 h2 =>
 xstore h2 (astore P h2 65 x7 x9) fun h3 =>
 xcall h3 (G 49 [x0] h3) fun x11 h4 =>
 xb (aun .not x11) fun x12 =>
 xg x12 true h4 (qp (afieldAddr P 65 x7 0)) fun x14 h5 =>
 xg x12 true h5 (qr (aload P h5 3 x14)) fun x15 h6 =>
 xg x12 true h6 (qv x1) fun x16 h7 =>
 xg x12 true h7 (qp (fbin P .eql 3 false x15 x16)) fun x17 h8 =>
 xb (pickOf x12 (some x17) (some (.bool false))) fun x18 =>
 xg x18 true h8 (qp (afieldAddr P 65 x7 1)) fun x20 h9 =>
 xg x18 true h9 (qr (aload P h9 9 x20)) fun x21 h10 =>
 xg x18 true h10 (qv x2) fun x22 h11 =>
 xg x18 true h11 (qp (fbin P .eql 9 false x21 x22)) fun x23 h12 =>
 xb (pickOf x18 (some x23) (some (.bool false))) fun x24 =>
 some (x24, h12)
theorem s86_eq (G : CallT) (N : Nat) (x0 : AV) (x1 : AV) (x2 : AV) (H : AHeap) : cF Try.f86 G N (argsF [x0, x1, x2]) H = s86 G x0 x1 x2 H := by
 refine via_top (A := cF Try.f86 G N) (via_leaf _) ?_
 delta s86
 kernel_rfl
theorem run86 (N : Nat) {x0 x1 x2 : AV} {H : AHeap} {r : AV × AHeap} (h : s86 (evw P) x0 x1 x2 H = some r) : evw P 86 [x0, x1, x2] H = some r :=
 runF Try.func86 (by kernel_rfl) (by kernel_rfl) (by kernel_rfl) ((s86_eq (evw P) N x0 x1 x2 H).trans h)
def s103 (G : CallT) (x0 x1 x2 : AV) (H : AHeap) : O :=
 xcall H (G 86 [x0, x1, x2] H) fun x10 h1 =>
 xb (aun .not x10) fun x11 =>
 xif (some x11) (some ((.bool false), h1)) (xb (anil x0) fun x13 =>
 xb (afieldAddr P 85 x13 1) fun x14 =>
 xb (aload P h1 3 x14) fun x15 =>
 xb (fbin P .add 3 true x15 (.int .i64 1)) fun x16 =>
 xb (anil x0) fun x17 =>
 xb (afieldAddr P 85 x17 1) fun x18 =>
 xstore h1 (astore P h1 3 x18 x16) fun h2 =>
 some ((.bool true), h2))
theorem s103_eq (G : CallT) (N : Nat) (x0 : AV) (x1 : AV) (x2 : AV) (H : AHeap) : cF Try.f103 G N (argsF [x0, x1, x2]) H = s103 G x0 x1 x2 H := by
 refine via_top (A := cF Try.f103 G N) (via_leaf _) ?_
 delta s103
 kernel_rfl
theorem run103 (N : Nat) {x0 x1 x2 : AV} {H : AHeap} {r : AV × AHeap} (h : s103 (evw P) x0 x1 x2 H = some r) : evw P 103 [x0, x1, x2] H = some r :=
 runF Try.func103 (by kernel_rfl) (by kernel_rfl) (by kernel_rfl) ((s103_eq (evw P) N x0 x1 x2 H).trans h)
def s89 (G : CallT) (x0 x1 : AV) (H : AHeap) : O :=
 xcall H (G 103 [x0, (.int .i64 4), x1] H) fun x6 h1 =>
 xb (aun .not x6) fun x7 =>
 xif (some x7) (xcall h1 (G 87 [x0, (.int .i64 2)] h1) fun x9 h2 =>
 some (.tuple [], h2)) (some (.tuple [], h1))
theorem s89_eq (G : CallT) (N : Nat) (x0 : AV) (x1 : AV) (H : AHeap) : cF Try.f89 G N (argsF [x0, x1]) H = s89 G x0 x1 H := by
 refine via_top (A := cF Try.f89 G N) (via_leaf _) ?_
 delta s89
 kernel_rfl
theorem run89 (N : Nat) {x0 x1 : AV} {H : AHeap} {r : AV × AHeap} (h : s89 (evw P) x0 x1 H = some r) : evw P 89 [x0, x1] H = some r :=
 runF Try.func89 (by kernel_rfl) (by kernel_rfl) (by kernel_rfl) ((s89_eq (evw P) N x0 x1 H).trans h)
def s104 (G : CallT) (x0 x1 x2 : AV) (H : AHeap) : O :=
 xmake H (boxOf (H).next x2) fun x5 h1 =>
 xb (afieldAddr P 25 x5 0) fun x6 =>
 xb (aload P h1 23 x6) fun x7 =>
 xb (fbin P .neq 23 true x7 (.int .i64 0)) fun x8 =>
 xif (some x8) (xb (aload P h1 25 x5) fun x10 =>
 xb (anil x0) fun x11 =>
 xb (afieldAddr P 85 x11 3) fun x12 =>
 xstore h1 (astore P h1 25 x12 x10) fun h2 =>
 some (.tuple [], h2)) (xb (anil x0) fun x15 =>
 xb (afieldAddr P 85 x15 1) fun x16 =>
 xstore h1 (astore P h1 3 x16 x1) fun h2 =>
 some (.tuple [], h2))
theorem s104_eq (G : CallT) (N : Nat) (x0 : AV) (x1 : AV) (x2 : AV) (H : AHeap) : cF Try.f104 G N (argsF [x0, x1, x2]) H = s104 G x0 x1 x2 H := by
 refine via_top (A := cF Try.f104 G N) (via_leaf _) ?_
 delta s104
 kernel_rfl
theorem run104 (N : Nat) {x0 x1 x2 : AV} {H : AHeap} {r : AV × AHeap} (h : s104 (evw P) x0 x1 x2 H = some r) : evw P 104 [x0, x1, x2] H = some r :=
 runF Try.func104 (by kernel_rfl) (by kernel_rfl) (by kernel_rfl) ((s104_eq (evw P) N x0 x1 x2 H).trans h)
def s90 (G : CallT) (x0 : AV) (H : AHeap) : O :=
 xalloc H [(.int .i64 0), (.int .i64 0), (.str []), (.str []), (.int .i64 0), AV.nilSl, (.int .i64 0), (.int .i64 0), (.int .i64 0), (.int .i64 0), (.int .i64 0)] fun x2 h1 =>
 xcall h1 (G 49 [x0] h1) fun x7 h2 =>
 xif (some x7) (xstore h2 (astore P h2 39 x2 (.agg [(.int .i64 0), (.int .i64 0), (.str []), (.str []), (.int .i64 0), AV.nilSl, (.int .i64 0), (.int .i64 0), (.int .i64 0), (.int .i64 0), (.int .i64 0)])) fun h3 =>
 xb (aload P h3 39 x2) fun r =>
 some (r, h3)) (xb (anil x0) fun x11 =>
 xb (afieldAddr P 85 x11 0) fun x12 =>
 xb (aload P h2 22 x12) fun x13 =>
 xb (anil x0) fun x15 =>
 xb (afieldAddr P 85 x15 1) fun x16 =>
 xb (aload P h2 3 x16) fun x17 =>
 xb (anil x0) fun x19 =>
 xb (afieldAddr P 85 x19 2) fun x20 =>
 xb (aload P h2 3 x20) fun x21 =>
 xcall h2 (G 21 [x13, x17, x21] h2) fun x22 h3 =>
 xb (aextract x22 0) fun x23 =>
 xalloc h3 [(.int .i64 0), (.int .i64 0), (.str []), (.str []), (.int .i64 0), AV.nilSl, (.int .i64 0), (.int .i64 0), (.int .i64 0), (.int .i64 0), (.int .i64 0)] fun x3 h4 =>
 xalloc h4 [(.int .i64 0), (.int .i64 0)] fun x5 h5 =>
 xstore h5 (astore P h5 39 x3 x23) fun h6 =>
 xb (aextract x22 1) fun x24 =>
 xb (aextract x22 2) fun x25 =>
 xstore h6 (astore P h6 25 x5 x25) fun h7 =>
 bif ((rdIs (aload P h2 22 x12) x13 && true) && ((rdIs (aload P h2 3 x16) x17 && true) && ((rdIs (aload P h2 3 x20) x21 && true) && true))) then (xb (aload P h7 25 x5) fun x28 =>
 xcall h7 (G 104 [x0, x24, x28] h7) fun x29 h8 =>
 xb (aload P h8 39 x3) fun x30 =>
 xstore h8 (astore P h8 39 x2 x30) fun h9 =>
 xb (aload P h9 39 x2) fun r =>
 some (r, h9)) else none)
theorem s90_eq (G : CallT) (N : Nat) (x0 : AV) (H : AHeap) : cF Try.f90 G N (argsF [x0]) H = s90 G x0 H := by
 refine via_top (A := cF Try.f90 G N) (via_leaf _) ?_
 delta s90
 kernel_rfl
theorem run90 (N : Nat) {x0 : AV} {H : AHeap} {r : AV × AHeap} (h : s90 (evw P) x0 H = some r) : evw P 90 [x0] H = some r :=
 runF Try.func90 (by kernel_rfl) (by kernel_rfl) (by kernel_rfl) ((s90_eq (evw P) N x0 H).trans h)
def s105_j0 (G : CallT) (x0 x3 x4 : AV) (H : AHeap) : O :=
 xb (anil x0) fun x16 =>
 xb (afieldAddr P 85 x16 1) fun x17 =>
 xb (aload P H 3 x17) fun x18 =>
 xb (fbin P .add 3 true x18 (.int .i64 1)) fun x19 =>
 xb (anil x0) fun x20 =>
 xb (afieldAddr P 85 x20 1) fun x21 =>
 xstore H (astore P H 3 x21 x19) fun h1 =>
 xcall h1 (G 89 [x0, (.str [58])] h1) fun x23 h2 =>
 xcall h2 (G 49 [x0] h2) fun x25 h3 =>
 xif (some x25) (xstore h3 (astore P h3 32 x3 (.agg [(.str []), (.int .i64 0)])) fun h4 =>
 xb (aload P h4 32 x3) fun r =>
 some (.tuple [(.str []), r], h4)) (xb (anil x0) fun x29 =>
 xb (afieldAddr P 85 x29 0) fun x30 =>
 xb (aload P h3 22 x30) fun x31 =>
 xb (anil x0) fun x33 =>
 xb (afieldAddr P 85 x33 1) fun x34 =>
 xb (aload P h3 3 x34) fun x35 =>
 xcall h3 (G 18 [x31, x35] h3) fun x36 h4 =>
 xb (aextract x36 0) fun x37 =>
 xalloc h4 [(.str []), (.int .i64 0)] fun x5 h5 =>
 xalloc h5 [(.int .i64 0), (.int .i64 0)] fun x7 h6 =>
 xstore h6 (astore P h6 32 x5 x37) fun h7 =>
 xb (aextract x36 1) fun x38 =>
 xb (aextract x36 2) fun x39 =>
 xstore h7 (astore P h7 25 x7 x39) fun h8 =>
 bif ((rdIs (aload P h3 22 x30) x31 && true) && ((rdIs (aload P h3 3 x34) x35 && true) && true)) then (xb (aload P h8 25 x7) fun x42 =>
 xcall h8 (G 104 [x0, x38, x42] h8) fun x43 h9 =>
 xb (afieldAddr P 65 x4 1) fun x44 =>
 xb (aload P h9 9 x44) fun x45 =>
 xb (aload P h9 32 x5) fun x46 =>
 xstore h9 (astore P h9 32 x3 x46) fun h10 =>
 xb (aload P h10 32 x3) fun r =>
 some (.tuple [x45, r], h10)) else none)
theorem s105_j0_eq (G : CallT) (N : Nat) : ∀ R H, codeC P G N (Code.snd (Code.snd (Code.snd (bodyOf Try.f105)))) (rC Try.f105) [] (rC Try.f105) R H = s105_j0 G (R 0) (R 3) (R 4) H := by
 refine via_trans (via_leaf _) fun R H => ?_
 delta s105_j0
 kernel_rfl
def s105 (G : CallT) (x0 : AV) (H : AHeap) : O :=
 xalloc H [(.str []), (.int .i64 0)] fun x3 h1 =>
 xcall h1 (G 76 [x0] h1) fun x9 h2 =>
 xalloc h2 [(.int .i64 0), (.str []), (.int .i64 0), (.int .i64 0)] fun x4 h3 =>
 xstore h3 (astore P h3 65 x4 x9) fun h4 =>
 xb (afieldAddr P 65 x4 0) fun x10 =>
 xb (aload P h4 3 x10) fun x11 =>
 xb (fbin P .neq 3 true x11 (.int .i64 1)) fun x12 =>
 xif (some x12) (xcall h4 (G 87 [x0, (.int .i64 2)] h4) fun x14 h5 =>
 s105_j0 G x0 x3 x4 h5) (s105_j0 G x0 x3 x4 h4)
theorem s105_eq (G : CallT) (N : Nat) (x0 : AV) (H : AHeap) : cF Try.f105 G N (argsF [x0]) H = s105 G x0 H := by
 refine via_top (A := cF Try.f105 G N) ((via_seq (by kernel_rfl) ((via_seq (by kernel_rfl) ((via_seq (by kernel_rfl) (s105_j0_eq G N) (via_leaf _))) (via_leaf _))) (via_leaf _))) ?_
 delta s105
 generalize s105_j0 G = J0
 revert J0
 refine id ?_
 intro J0
 kernel_rfl
theorem run105 (N : Nat) {x0 : AV} {H : AHeap} {r : AV × AHeap} (h : s105 (evw P) x0 H = some r) : evw P 105 [x0] H = some r :=
 runF Try.func105 (by kernel_rfl) (by kernel_rfl) (by kernel_rfl) ((s105_eq (evw P) N x0 H).trans h)
def s88_j0 (G : CallT) (N : Nat) (x7 : AV) (H : AHeap) : O :=
 some (x7, H)
theorem s88_j0_eq (G : CallT) (N : Nat) : ∀ R H, codeC P G N (Code.snd (Code.snd (Code.snd (bodyOf Try.f88)))) (rC Try.f88) [] (rC Try.f88) R H = s88_j0 G N (R 7) H := by
 refine via_trans (via_leaf _) fun R H => ?_
 delta s88_j0
 kernel_rfl
def s88_b1 (G : CallT) (N : Nat) (L1 : AV → AV → AV → AV → AHeap → O) (x0 x1 : AV) (x2 x7 : AV) (H : AHeap) : O :=
 xcall H (G 49 [x0] H) fun x9 h1 =>
 xb (aun .not x9) fun x10 =>
 xg x10 true h1 (qv x0) fun x12 h2 =>
 xg x10 true h2 (qv x1) fun x13 h3 =>
 xg x10 true h3 (fun q => xeff h3 (G 86 [x12, (.int .i64 4), x13] h3) q) fun x14 h4 =>
 xg x10 true h4 (qp (aun .not x14)) fun x15 h5 =>
 xb (pickOf x10 (some x15) (some (.bool false))) fun x16 =>
 xif (some x16) (xapply G h5 x2 [] fun x19 h6 =>
 xmake h6 (sliceOf P (h6).next 50 1 [(0, x19)]) fun x20 h7 =>
 xcall h7 (aappend P h7 [50, 50] x7 x20) fun x21 h8 =>
 L1 x0 x1 x2 x21 h8) (s88_j0 G N x7 h5)
def s88_l1 (G : CallT) (N : Nat) : Nat → AV → AV → AV → AV → AHeap → O
 | 0, _, _, _, _, _ => none
 | n + 1, x0, x1, x2, x7, H => s88_b1 G N (s88_l1 G N n) x0 x1 x2 x7 H
theorem s88_b1_eq (G : CallT) (N : Nat) (L1 : AV → AV → AV → AV → AHeap → O) : ∀ R H, codeC P G N (Code.fst (Code.fst (Code.fst (Code.snd (Code.snd (bodyOf Try.f88)))))) (fun R H => L1 (R 0) (R 1) (R 2) (R 7) H) [(0, (fun R H => s88_j0 G N (R 7) H))] (rC Try.f88) R H = s88_b1 G N L1 (R 0) (R 1) (R 2) (R 7) H := by
 refine via_trans (via_leaf _) fun R H => ?_
 delta s88_b1
 generalize s88_j0 G N = J0
 revert J0
 refine id ?_
 intro J0
 kernel_rfl
def s88 (G : CallT) (N : Nat) (x0 x1 x2 : AV) (H : AHeap) : O :=
 s88_l1 G N N x0 x1 x2 AV.nilSl H
theorem s88_eq (G : CallT) (N : Nat) (x0 : AV) (x1 : AV) (x2 : AV) (H : AHeap) : cF Try.f88 G N (argsF [x0, x1, x2]) H = s88 G N x0 x1 x2 H := by
 refine via_top (A := cF Try.f88 G N) ((via_seq (by kernel_rfl) ((via_seq (by kernel_rfl) ((via_seq (by kernel_rfl) (s88_j0_eq G N) ((via_block (by kernel_rfl) ((via_loop (k := fun m R H => s88_l1 G N m (R 0) (R 1) (R 2) (R 7) H) (by kernel_rfl) (fun R H => by kernel_rfl) (fun m => s88_b1_eq G N (s88_l1 G N m)))))))) (via_leaf _))) (via_leaf _))) ?_
 delta s88
 generalize s88_l1 G N N = J0
 revert J0
 refine id ?_
 intro J0
 kernel_rfl
theorem run88 (N : Nat) {x0 x1 x2 : AV} {H : AHeap} {r : AV × AHeap} (h : s88 (evw P) N x0 x1 x2 H = some r) : evw P 88 [x0, x1, x2] H = some r :=
 runF Try.func88 (by kernel_rfl) (by kernel_rfl) (by kernel_rfl) ((s88_eq (evw P) N x0 x1 x2 H).trans h)
def s73 (G : CallT) (x0 : AV) (H : AHeap) : O :=
 xcall H (G 86 [x0, (.int .i64 4), (.str [123])] H) fun x6 h1 =>
 xb (aun .not x6) fun x7 =>
 xif (some x7) (xcall h1 (G 87 [x0, (.int .i64 2)] h1) fun x9 h2 =>
 some (AV.nilSl, h2)) (xb (anil x0) fun x12 =>
 xb (afieldAddr P 85 x12 2) fun x13 =>
 xb (aload P h1 3 x13) fun x14 =>
 xb (fbin P .geq 3 true x14 (.int .i64 50)) fun x15 =>
 xif (some x15) (xcall h1 (G 87 [x0, (.int .i64 4)] h1) fun x17 h2 =>
 some (AV.nilSl, h2)) (xb (anil x0) fun x19 =>
 xb (afieldAddr P 85 x19 1) fun x20 =>
 xb (aload P h1 3 x20) fun x21 =>
 xb (fbin P .add 3 true x21 (.int .i64 1)) fun x22 =>
 xb (anil x0) fun x23 =>
 xb (afieldAddr P 85 x23 1) fun x24 =>
 xstore h1 (astore P h1 3 x24 x22) fun h2 =>
 xb (anil x0) fun x26 =>
 xb (afieldAddr P 85 x26 2) fun x27 =>
 xb (aload P h2 3 x27) fun x28 =>
 xb (fbin P .add 3 true x28 (.int .i64 1)) fun x29 =>
 xb (anil x0) fun x30 =>
 xb (afieldAddr P 85 x30 2) fun x31 =>
 xstore h2 (astore P h2 3 x31 x29) fun h3 =>
 xcall h3 (G 88 [x0, (.str [125]), (.func (.func 48) [x0] [])] h3) fun x35 h4 =>
 xb (anil x0) fun x37 =>
 xb (afieldAddr P 85 x37 2) fun x38 =>
 xb (aload P h4 3 x38) fun x39 =>
 xb (fbin P .sub 3 true x39 (.int .i64 1)) fun x40 =>
 xb (anil x0) fun x41 =>
 xb (afieldAddr P 85 x41 2) fun x42 =>
 xstore h4 (astore P h4 3 x42 x40) fun h5 =>
 xcall h5 (G 89 [x0, (.str [125])] h5) fun x44 h6 =>
 some (x35, h6)))
theorem s73_eq (G : CallT) (N : Nat) (x0 : AV) (H : AHeap) : cF Try.f73 G N (argsF [x0]) H = s73 G x0 H := by
 refine via_top (A := cF Try.f73 G N) (via_leaf _) ?_
 delta s73
 kernel_rfl
theorem run73 (N : Nat) {x0 : AV} {H : AHeap} {r : AV × AHeap} (h : s73 (evw P) x0 H = some r) : evw P 73 [x0] H = some r :=
 runF Try.func73 (by kernel_rfl) (by kernel_rfl) (by kernel_rfl) ((s73_eq (evw P) N x0 H).trans h)
def s48_j0 (G : CallT) (x0 x2 : AV) (x3 x4 : AV) (H : AHeap) : O :=
 xapply G H x4 [x0] fun x28 h1 =>
 xalloc h1 [(.int .i64 0), (.str []), (.str []), (.int .i64 0), AV.nilSl, AV.nilSl, AV.nilSl, (.int .i64 0), (.int .i64 0)] fun x6 h2 =>
 xstore h2 (astore P h2 54 x6 x28) fun h3 =>
 xb (afieldAddr P 65 x3 3) fun x29 =>
 xb (aload P h3 3 x29) fun x30 =>
 xb (afieldAddr P 54 x6 6) fun x31 =>
 xstore h3 (astore P h3 3 x31 x30) fun h4 =>
 xb (aload P h4 54 x6) fun x32 =>
 xstore h4 (astore P h4 54 x2 x32) fun h5 =>
 xb (aload P h5 54 x2) fun r =>
 some (r, h5)
theorem s48_j0_eq (G : CallT) (N : Nat) : ∀ R H, codeC P G N (Code.snd (Code.snd (Code.snd (Code.snd (bodyOf Try.f48))))) (rC Try.f48) [] (rC Try.f48) R H = s48_j0 G (R 0) (R 2) (R 3) (R 4) H := by
 refine via_trans (via_leaf _) fun R H => ?_
 delta s48_j0
 kernel_rfl
def s48 (G : CallT) (x0 : AV) (H : AHeap) : O :=
 xalloc H [(.int .i64 0), (.str []), (.str []), (.int .i64 0), AV.nilSl, AV.nilSl, AV.nilSl, (.int .i64 0), (.int .i64 0)] fun x2 h1 =>
 xcall h1 (G 76 [x0] h1) fun x8 h2 =>
 xalloc h2 [(.int .i64 0), (.str []), (.int .i64 0), (.int .i64 0)] fun x3 h3 =>
 xstore h3 (astore P h3 65 x3 x8) fun h4 =>
 xb (afieldAddr P 65 x3 0) fun x9 =>
 xb (aload P h4 3 x9) fun x10 =>
 xb (fbin P .eql 3 true x10 (.int .i64 3)) fun x11 =>
 xif (some x11) (xcall h4 (G 78 [] h4) fun x12 h5 =>
 xb (afieldAddr P 65 x3 1) fun x13 =>
 xb (aload P h5 9 x13) fun x14 =>
 xb (alookup P h5 104 x12 x14 false) fun x15 =>
 bif ((rdIs (aload P h4 9 x13) x14 && rdIs (aload P h5 9 x13) x14) && true) then (xb (fbin P .neq 103 true x15 AV.nilFunc) fun x17 =>
 xif (some x17) (xb (anil x0) fun x19 =>
 xb (afieldAddr P 85 x19 1) fun x20 =>
 xb (aload P h5 3 x20) fun x21 =>
 xb (fbin P .add 3 true x21 (.int .i64 1)) fun x22 =>
 xb (anil x0) fun x23 =>
 xb (afieldAddr P 85 x23 1) fun x24 =>
 xstore h5 (astore P h5 3 x24 x22) fun h6 =>
 s48_j0 G x0 x2 x3 x15 h6) (s48_j0 G x0 x2 x3 (.func (.func 77) [] []) h5)) else none) (s48_j0 G x0 x2 x3 (.func (.func 77) [] []) h4)
theorem s48_eq (G : CallT) (N : Nat) (x0 : AV) (H : AHeap) : cF Try.f48 G N (argsF [x0]) H = s48 G x0 H := by
 refine via_top (A := cF Try.f48 G N) ((via_seq (by kernel_rfl) ((via_seq (by kernel_rfl) ((via_seq (by kernel_rfl) ((via_seq (by kernel_rfl) (s48_j0_eq G N) (via_leaf _))) (via_leaf _))) (via_leaf _))) (via_leaf _))) ?_
 delta s48
 generalize s48_j0 G = J0
 revert J0
 refine id ?_
 intro J0
 kernel_rfl
theorem run48 (N : Nat) {x0 : AV} {H : AHeap} {r : AV × AHeap} (h : s48 (evw P) x0 H = some r) : evw P 48 [x0] H = some r :=
 runF Try.func48 (by kernel_rfl) (by kernel_rfl) (by kernel_rfl) ((s48_eq (evw P) N x0 H).trans h)
def s78 (G : CallT) (H : AHeap) : O :=
 xmake H (some (.map (H).next, .map [])) fun x1 h1 =>
 xstore h1 (amapUpdate P h1 104 x1 (.str [118, 97, 114]) (.func (.func 92) [] [])) fun h2 =>
 xstore h2 (amapUpdate P h2 104 x1 (.str [108, 101, 116]) (.func (.func 93) [] [])) fun h3 =>
 xstore h3 (amapUpdate P h3 104 x1 (.str [105, 102]) (.func (.func 94) [] [])) fun h4 =>
 xstore h4 (amapUpdate P h4 104 x1 (.str [119, 104, 105, 108, 101]) (.func (.func 95) [] [])) fun h5 =>
 xstore h5 (amapUpdate P h5 104 x1 (.str [114, 101, 116, 117, 114, 110]) (.func (.func 96) [] [])) fun h6 =>
 xstore h6 (amapUpdate P h6 104 x1 (.str [112, 114, 105, 110, 116]) (.func (.func 97) [] [])) fun h7 =>
 some (x1, h7)
theorem s78_eq (G : CallT) (N : Nat) (H : AHeap) : cF Try.f78 G N (argsF []) H = s78 G H := by
 refine via_top (A := cF Try.f78 G N) (via_leaf _) ?_
 delta s78
 kernel_rfl
theorem run78 (N : Nat) {H : AHeap} {r : AV × AHeap} (h : s78 (evw P) H = some r) : evw P 78 [] H = some r :=
 runF Try.func78 (by kernel_rfl) (by kernel_rfl) (by kernel_rfl) ((s78_eq (evw P) N H).trans h)
def s92 (G : CallT) (x0 : AV) (H : AHeap) : O :=
 xalloc H [(.int .i64 0), (.str []), (.str []), (.int .i64 0), AV.nilSl, AV.nilSl, AV.nilSl, (.int .i64 0), (.int .i64 0)] fun x2 h1 =>
 xcall h1 (G 105 [x0] h1) fun x7 h2 =>
 xb (aextract x7 0) fun x8 =>
 xb (aextract x7 1) fun x9 =>
 xalloc h2 [(.str []), (.int .i64 0)] fun x4 h3 =>
 xstore h3 (astore P h3 32 x4 x9) fun h4 =>
 xcall h4 (G 89 [x0, (.str [59])] h4) fun x11 h5 =>
 xb (aload P h5 32 x4) fun x13 =>
 xb (abuild P 54 [(0, (.int .i64 1)), (1, x8), (2, x13)]) fun x14 =>
 xstore h5 (astore P h5 54 x2 x14) fun h6 =>
 xb (aload P h6 54 x2) fun r =>
 some (r, h6)
theorem s92_eq (G : CallT) (N : Nat) (x0 : AV) (H : AHeap) : cF Try.f92 G N (argsF [x0]) H = s92 G x0 H := by
 refine via_top (A := cF Try.f92 G N) (via_leaf _) ?_
 delta s92
 kernel_rfl
theorem run92 (N : Nat) {x0 : AV} {H : AHeap} {r : AV × AHeap} (h : s92 (evw P) x0 H = some r) : evw P 92 [x0] H = some r :=
 runF Try.func92 (by kernel_rfl) (by kernel_rfl) (by kernel_rfl) ((s92_eq (evw P) N x0 H).trans h)
def s93 (G : CallT) (x0 : AV) (H : AHeap) : O :=
 xalloc H [(.int .i64 0), (.str []), (.str []), (.int .i64 0), AV.nilSl, AV.nilSl, AV.nilSl, (.int .i64 0), (.int .i64 0)] fun x2 h1 =>
 xcall h1 (G 105 [x0] h1) fun x8 h2 =>
 xb (aextract x8 0) fun x9 =>
 xb (aextract x8 1) fun x10 =>
 xalloc h2 [(.str []), (.int .i64 0)] fun x4 h3 =>
 xstore h3 (astore P h3 32 x4 x10) fun h4 =>
 xcall h4 (G 89 [x0, (.str [61])] h4) fun x12 h5 =>
 xcall h5 (G 90 [x0] h5) fun x14 h6 =>
 xalloc h6 [(.int .i64 0), (.int .i64 0), (.str []), (.str []), (.int .i64 0), AV.nilSl, (.int .i64 0), (.int .i64 0), (.int .i64 0), (.int .i64 0), (.int .i64 0)] fun x5 h7 =>
 xstore h7 (astore P h7 39 x5 x14) fun h8 =>
 xcall h8 (G 89 [x0, (.str [59])] h8) fun x16 h9 =>
 xb (aload P h9 32 x4) fun x18 =>
 xb (aload P h9 39 x5) fun x19 =>
 xmake h9 (sliceOf P (h9).next 35 1 [(0, x19)]) fun x20 h10 =>
 xb (abuild P 54 [(0, (.int .i64 2)), (1, x9), (2, x18), (3, x20)]) fun x21 =>
 xstore h10 (astore P h10 54 x2 x21) fun h11 =>
 xb (aload P h11 54 x2) fun r =>
 some (r, h11)
theorem s93_eq (G : CallT) (N : Nat) (x0 : AV) (H : AHeap) : cF Try.f93 G N (argsF [x0]) H = s93 G x0 H := by
 refine via_top (A := cF Try.f93 G N) (via_leaf _) ?_
 delta s93
 kernel_rfl
theorem run93 (N : Nat) {x0 : AV} {H : AHeap} {r : AV × AHeap} (h : s93 (evw P) x0 H = some r) : evw P 93 [x0] H = some r :=
 runF Try.func93 (by kernel_rfl) (by kernel_rfl) (by kernel_rfl) ((s93_eq (evw P) N x0 H).trans h)
def s94_j0 (G : CallT) (x2 x3 : AV) (H : AHeap) : O :=
 xb (aload P H 54 x3) fun x15 =>
 xstore H (astore P H 54 x2 x15) fun h1 =>
 xb (aload P h1 54 x2) fun r =>
 some (r, h1)
theorem s94_j0_eq (G : CallT) (N : Nat) : ∀ R H, codeC P G N (Code.snd (Code.snd (Code.snd (bodyOf Try.f94)))) (rC Try.f94) [] (rC Try.f94) R H = s94_j0 G (R 2) (R 3) H := by
 refine via_trans (via_leaf _) fun R H => ?_
 delta s94_j0
 kernel_rfl
def s94 (G : CallT) (x0 : AV) (H : AHeap) : O :=
 xalloc H [(.int .i64 0), (.str []), (.str []), (.int .i64 0), AV.nilSl, AV.nilSl, AV.nilSl, (.int .i64 0), (.int .i64 0)] fun x2 h1 =>
 xcall h1 (G 90 [x0] h1) fun x5 h2 =>
 xmake h2 (sliceOf P (h2).next 35 1 [(0, x5)]) fun x6 h3 =>
 xcall h3 (G 73 [x0] h3) fun x8 h4 =>
 xb (abuild P 54 [(0, (.int .i64 5)), (3, x6), (4, x8)]) fun x9 =>
 xalloc h4 [(.int .i64 0), (.str []), (.str []), (.int .i64 0), AV.nilSl, AV.nilSl, AV.nilSl, (.int .i64 0), (.int .i64 0)] fun x3 h5 =>
 xstore h5 (astore P h5 54 x3 x9) fun h6 =>
 xcall h6 (G 103 [x0, (.int .i64 3), (.str [101, 108, 115, 101])] h6) fun x11 h7 =>
 xif (some x11) (xcall h7 (G 73 [x0] h7) fun x13 h8 =>
 xb (afieldAddr P 54 x3 5) fun x14 =>
 xstore h8 (astore P h8 50 x14 x13) fun h9 =>
 s94_j0 G x2 x3 h9) (s94_j0 G x2 x3 h7)
theorem s94_eq (G : CallT) (N : Nat) (x0 : AV) (H : AHeap) : cF Try.f94 G N (argsF [x0]) H = s94 G x0 H := by
 refine via_top (A := cF Try.f94 G N) ((via_seq (by kernel_rfl) ((via_seq (by kernel_rfl) ((via_seq (by kernel_rfl) (s94_j0_eq G N) (via_leaf _))) (via_leaf _))) (via_leaf _))) ?_
 delta s94
 generalize s94_j0 G = J0
 revert J0
 refine id ?_
 intro J0
 kernel_rfl
theorem run94 (N : Nat) {x0 : AV} {H : AHeap} {r : AV × AHeap} (h : s94 (evw P) x0 H = some r) : evw P 94 [x0] H = some r :=
 runF Try.func94 (by kernel_rfl) (by kernel_rfl) (by kernel_rfl) ((s94_eq (evw P) N x0 H).trans h)
def s95 (G : CallT) (x0 : AV) (H : AHeap) : O :=
 xalloc H [(.int .i64 0), (.str []), (.str []), (.int .i64 0), AV.nilSl, AV.nilSl, AV.nilSl, (.int .i64 0), (.int .i64 0)] fun x2 h1 =>
 xcall h1 (G 90 [x0] h1) fun x4 h2 =>
 xmake h2 (sliceOf P (h2).next 35 1 [(0, x4)]) fun x5 h3 =>
 xcall h3 (G 73 [x0] h3) fun x7 h4 =>
 xb (abuild P 54 [(0, (.int .i64 6)), (3, x5), (4, x7)]) fun x8 =>
 xstore h4 (astore P h4 54 x2 x8) fun h5 =>
 xb (aload P h5 54 x2) fun r =>
 some (r, h5)
theorem s95_eq (G : CallT) (N : Nat) (x0 : AV) (H : AHeap) : cF Try.f95 G N (argsF [x0]) H = s95 G x0 H := by
 refine via_top (A := cF Try.f95 G N) (via_leaf _) ?_
 delta s95
 kernel_rfl
theorem run95 (N : Nat) {x0 : AV} {H : AHeap} {r : AV × AHeap} (h : s95 (evw P) x0 H = some r) : evw P 95 [x0] H = some r :=
 runF Try.func95 (by kernel_rfl) (by kernel_rfl) (by kernel_rfl) ((s95_eq (evw P) N x0 H).trans h)
def s96_j0 (G : CallT) (x0 x2 x3 : AV) (H : AHeap) : O :=
 xcall H (G 89 [x0, (.str [59])] H) fun x13 h1 =>
 xb (aload P h1 54 x3) fun x14 =>
 xstore h1 (astore P h1 54 x2 x14) fun h2 =>
 xb (aload P h2 54 x2) fun r =>
 some (r, h2)
theorem s96_j0_eq (G : CallT) (N : Nat) : ∀ R H, codeC P G N (Code.snd (Code.snd (Code.snd (bodyOf Try.f96)))) (rC Try.f96) [] (rC Try.f96) R H = s96_j0 G (R 0) (R 2) (R 3) H := by
 refine via_trans (via_leaf _) fun R H => ?_
 delta s96_j0
 kernel_rfl
def s96 (G : CallT) (x0 : AV) (H : AHeap) : O :=
 xalloc H [(.int .i64 0), (.str []), (.str []), (.int .i64 0), AV.nilSl, AV.nilSl, AV.nilSl, (.int .i64 0), (.int .i64 0)] fun x2 h1 =>
 xalloc h1 [(.int .i64 0), (.str []), (.str []), (.int .i64 0), AV.nilSl, AV.nilSl, AV.nilSl, (.int .i64 0), (.int .i64 0)] fun x3 h2 =>
 xstore h2 (astore P h2 54 x3 (.agg [(.int .i64 7), (.str []), (.str []), (.int .i64 0), AV.nilSl, AV.nilSl, AV.nilSl, (.int .i64 0), (.int .i64 0)])) fun h3 =>
 xcall h3 (G 86 [x0, (.int .i64 4), (.str [59])] h3) fun x6 h4 =>
 xb (aun .not x6) fun x7 =>
 xif (some x7) (xcall h4 (G 90 [x0] h4) fun x9 h5 =>
 xmake h5 (sliceOf P (h5).next 35 1 [(0, x9)]) fun x10 h6 =>
 xb (afieldAddr P 54 x3 3) fun x11 =>
 xstore h6 (astore P h6 35 x11 x10) fun h7 =>
 s96_j0 G x0 x2 x3 h7) (s96_j0 G x0 x2 x3 h4)
theorem s96_eq (G : CallT) (N : Nat) (x0 : AV) (H : AHeap) : cF Try.f96 G N (argsF [x0]) H = s96 G x0 H := by
 refine via_top (A := cF Try.f96 G N) ((via_seq (by kernel_rfl) ((via_seq (by kernel_rfl) ((via_seq (by kernel_rfl) (s96_j0_eq G N) (via_leaf _))) (via_leaf _))) (via_leaf _))) ?_
 delta s96
 generalize s96_j0 G = J0
 revert J0
 refine id ?_
 intro J0
 kernel_rfl
theorem run96 (N : Nat) {x0 : AV} {H : AHeap} {r : AV × AHeap} (h : s96 (evw P) x0 H = some r) : evw P 96 [x0] H = some r :=
 runF Try.func96 (by kernel_rfl) (by kernel_rfl) (by kernel_rfl) ((s96_eq (evw P) N x0 H).trans h)
def s97 (G : CallT) (x0 : AV) (H : AHeap) : O :=
 xalloc H [(.int .i64 0), (.str []), (.str []), (.int .i64 0), AV.nilSl, AV.nilSl, AV.nilSl, (.int .i64 0), (.int .i64 0)] fun x2 h1 =>
 xcall h1 (G 90 [x0] h1) fun x5 h2 =>
 xalloc h2 [(.int .i64 0), (.int .i64 0), (.str []), (.str []), (.int .i64 0), AV.nilSl, (.int .i64 0), (.int .i64 0), (.int .i64 0), (.int .i64 0), (.int .i64 0)] fun x3 h3 =>
 xstore h3 (astore P h3 39 x3 x5) fun h4 =>
 xcall h4 (G 89 [x0, (.str [59])] h4) fun x7 h5 =>
 xb (aload P h5 39 x3) fun x8 =>
 xmake h5 (sliceOf P (h5).next 35 1 [(0, x8)]) fun x9 h6 =>
 xb (abuild P 54 [(0, (.int .i64 8)), (3, x9)]) fun x10 =>
 xstore h6 (astore P h6 54 x2 x10) fun h7 =>
 xb (aload P h7 54 x2) fun r =>
 some (r, h7)
theorem s97_eq (G : CallT) (N : Nat) (x0 : AV) (H : AHeap) : cF Try.f97 G N (argsF [x0]) H = s97 G x0 H := by
 refine via_top (A := cF Try.f97 G N) (via_leaf _) ?_
 delta s97
 kernel_rfl
theorem run97 (N : Nat) {x0 : AV} {H : AHeap} {r : AV × AHeap} (h : s97 (evw P) x0 H = some r) : evw P 97 [x0] H = some r :=
 runF Try.func97 (by kernel_rfl) (by kernel_rfl) (by kernel_rfl) ((s97_eq (evw P) N x0 H).trans h)
def s77_j0 (G : CallT) (x0 x2 x3 : AV) (H : AHeap) : O :=
 xcall H (G 89 [x0, (.str [59])] H) fun x21 h1 =>
 xb (aload P h1 39 x3) fun x22 =>
 xmake h1 (sliceOf P (h1).next 35 1 [(0, x22)]) fun x23 h2 =>
 xb (abuild P 54 [(0, (.int .i64 9)), (3, x23)]) fun x24 =>
 xstore h2 (astore P h2 54 x2 x24) fun h3 =>
 xb (aload P h3 54 x2) fun r =>
 some (r, h3)
theorem s77_j0_eq (G : CallT) (N : Nat) : ∀ R H, codeC P G N (Code.snd (Code.snd (Code.snd (Code.snd (bodyOf Try.f77))))) (rC Try.f77) [] (rC Try.f77) R H = s77_j0 G (R 0) (R 2) (R 3) H := by
 refine via_trans (via_leaf _) fun R H => ?_
 delta s77_j0
 kernel_rfl
def s77 (G : CallT) (x0 : AV) (H : AHeap) : O :=
 xalloc H [(.int .i64 0), (.str []), (.str []), (.int .i64 0), AV.nilSl, AV.nilSl, AV.nilSl, (.int .i64 0), (.int .i64 0)] fun x2 h1 =>
 xcall h1 (G 90 [x0] h1) fun x5 h2 =>
 xalloc h2 [(.int .i64 0), (.int .i64 0), (.str []), (.str []), (.int .i64 0), AV.nilSl, (.int .i64 0), (.int .i64 0), (.int .i64 0), (.int .i64 0), (.int .i64 0)] fun x3 h3 =>
 xstore h3 (astore P h3 39 x3 x5) fun h4 =>
 xcall h4 (G 86 [x0, (.int .i64 4), (.str [61])] h4) fun x7 h5 =>
 xif (some x7) (xb (aload P h5 39 x3) fun x9 =>
 xcall h5 (G 91 [x0, x9] h5) fun x10 h6 =>
 xstore h6 (astore P h6 54 x2 x10) fun h7 =>
 xb (aload P h7 54 x2) fun r =>
 some (r, h7)) (xcall h5 (G 86 [x0, (.int .i64 4), (.str [59])] h5) fun x12 h6 =>
 xg x12 true h6 (qp (afieldAddr P 39 x3 0)) fun x14 h7 =>
 xg x12 true h7 (qr (aload P h7 3 x14)) fun x15 h8 =>
 xg x12 true h8 (qp (fbin P .neq 3 true x15 (.int .i64 7))) fun x16 h9 =>
 xb (pickOf x12 (some x16) (some (.bool false))) fun x17 =>
 xif (some x17) (xcall h9 (G 87 [x0, (.int .i64 2)] h9) fun x19 h10 =>
 s77_j0 G x0 x2 x3 h10) (s77_j0 G x0 x2 x3 h9))
theorem s77_eq (G : CallT) (N : Nat) (x0 : AV) (H : AHeap) : cF Try.f77 G N (argsF [x0]) H = s77 G x0 H := by
 refine via_top (A := cF Try.f77 G N) ((via_seq (by kernel_rfl) ((via_seq (by kernel_rfl) ((via_seq (by kernel_rfl) ((via_seq (by kernel_rfl) (s77_j0_eq G N) (via_leaf _))) (via_leaf _))) (via_leaf _))) (via_leaf _))) ?_
 delta s77
 generalize s77_j0 G = J0
 revert J0
 refine id ?_
 intro J0
 kernel_rfl
theorem run77 (N : Nat) {x0 : AV} {H : AHeap} {r : AV × AHeap} (h : s77 (evw P) x0 H = some r) : evw P 77 [x0] H = some r :=
 runF Try.func77 (by kernel_rfl) (by kernel_rfl) (by kernel_rfl) ((s77_eq (evw P) N x0 H).trans h)
def s91_j0 (G : CallT) (x0 x3 x4 : AV) (H : AHeap) : O :=
 xcall H (G 89 [x0, (.str [61])] H) fun x22 h1 =>
 xcall h1 (G 90 [x0] h1) fun x24 h2 =>
 xalloc h2 [(.int .i64 0), (.int .i64 0), (.str []), (.str []), (.int .i64 0), AV.nilSl, (.int .i64 0), (.int .i64 0), (.int .i64 0), (.int .i64 0), (.int .i64 0)] fun x5 h3 =>
 xstore h3 (astore P h3 39 x5 x24) fun h4 =>
 xcall h4 (G 89 [x0, (.str [59])] h4) fun x26 h5 =>
 xb (afieldAddr P 39 x3 0) fun x27 =>
 xb (aload P h5 3 x27) fun x28 =>
 xb (fbin P .eql 3 true x28 (.int .i64 4)) fun x29 =>
 xif (some x29) (xb (afieldAddr P 39 x3 2) fun x30 =>
 xb (aload P h5 9 x30) fun x31 =>
 xb (aload P h5 39 x5) fun x32 =>
 xmake h5 (sliceOf P (h5).next 35 1 [(0, x32)]) fun x33 h6 =>
 xb (abuild P 54 [(0, (.int .i64 3)), (1, x31), (3, x33)]) fun x34 =>
 xstore h6 (astore P h6 54 x4 x34) fun h7 =>
 xb (aload P h7 54 x4) fun r =>
 some (r, h7)) (xb (aload P h5 39 x3) fun x35 =>
 xb (aload P h5 39 x5) fun x36 =>
 xmake h5 (sliceOf P (h5).next 35 2 [(0, x35), (1, x36)]) fun x37 h6 =>
 xb (abuild P 54 [(0, (.int .i64 4)), (3, x37)]) fun x38 =>
 xstore h6 (astore P h6 54 x4 x38) fun h7 =>
 xb (aload P h7 54 x4) fun r =>
 some (r, h7))
theorem s91_j0_eq (G : CallT) (N : Nat) : ∀ R H, codeC P G N (Code.snd (Code.snd (bodyOf Try.f91))) (rC Try.f91) [] (rC Try.f91) R H = s91_j0 G (R 0) (R 3) (R 4) H := by
 refine via_trans (via_leaf _) fun R H => ?_
 delta s91_j0
 kernel_rfl
def s91 (G : CallT) (x0 x1 : AV) (H : AHeap) : O :=
 xmake H (boxOf (H).next x1) fun x3 h1 =>
 xalloc h1 [(.int .i64 0), (.str []), (.str []), (.int .i64 0), AV.nilSl, AV.nilSl, AV.nilSl, (.int .i64 0), (.int .i64 0)] fun x4 h2 =>
 xb (afieldAddr P 39 x3 0) fun x6 =>
 xb (aload P h2 3 x6) fun x7 =>
 xb (fbin P .neq 3 true x7 (.int .i64 4)) fun x8 =>
 xg x8 true h2 (qp (afieldAddr P 39 x3 0)) fun x10 h3 =>
 xg x8 true h3 (qr (aload P h3 3 x10)) fun x11 h4 =>
 xg x8 true h4 (qp (fbin P .neq 3 true x11 (.int .i64 5))) fun x12 h5 =>
 xb (pickOf x8 (some x12) (some (.bool false))) fun x13 =>
 xg x13 true h5 (qp (afieldAddr P 39 x3 0)) fun x15 h6 =>
 xg x13 true h6 (qr (aload P h6 3 x15)) fun x16 h7 =>
 xg x13 true h7 (qp (fbin P .neq 3 true x16 (.int .i64 6))) fun x17 h8 =>
 xb (pickOf x13 (some x17) (some (.bool false))) fun x18 =>
 xif (some x18) (xcall h8 (G 87 [x0, (.int .i64 2)] h8) fun x20 h9 =>
 s91_j0 G x0 x3 x4 h9) (s91_j0 G x0 x3 x4 h8)
theorem s91_eq (G : CallT) (N : Nat) (x0 : AV) (x1 : AV) (H : AHeap) : cF Try.f91 G N (argsF [x0, x1]) H = s91 G x0 x1 H := by
 refine via_top (A := cF Try.f91 G N) ((via_seq (by kernel_rfl) ((via_seq (by kernel_rfl) (s91_j0_eq G N) (via_leaf _))) (via_leaf _))) ?_
 delta s91
 generalize s91_j0 G = J0
 revert J0
 refine id ?_
 intro J0
 kernel_rfl
theorem run91 (N : Nat) {x0 x1 : AV} {H : AHeap} {r : AV × AHeap} (h : s91 (evw P) x0 x1 H = some r) : evw P 91 [x0, x1] H = some r :=
 runF Try.func91 (by kernel_rfl) (by kernel_rfl) (by kernel_rfl) ((s91_eq (evw P) N x0 x1 H).trans h)
def s28 (G : CallT) (x0 x1 x2 : AV) (H : AHeap) : O :=
 xalloc H [(.int .i64 0), (.str []), (.str []), (.int .i64 0), AV.nilSl, AV.nilSl, AV.nilSl, (.int .i64 0), (.int .i64 0)] fun x6 h1 =>
 xalloc h1 [(.int .i64 0), (.int .i64 0)] fun x8 h2 =>
 xlen P .max [3, 3] [x2, (.int .i64 0)] h2 fun x14 =>
 xb (abuild P 85 [(0, x0), (1, x1), (2, x14)]) fun x15 =>
 xmake h2 (boxOf (h2).next x15) fun x16 h3 =>
 xcall h3 (G 48 [x16] h3) fun x18 h4 =>
 xalloc h4 [(.int .i64 0), (.str []), (.str []), (.int .i64 0), AV.nilSl, AV.nilSl, AV.nilSl, (.int .i64 0), (.int .i64 0)] fun x10 h5 =>
 xstore h5 (astore P h5 54 x10 x18) fun h6 =>
 xcall h6 (G 49 [x16] h6) fun x20 h7 =>
 xif (some x20) (xstore h7 (astore P h7 54 x6 (.agg [(.int .i64 0), (.str []), (.str []), (.int .i64 0), AV.nilSl, AV.nilSl, AV.nilSl, (.int .i64 0), (.int .i64 0)])) fun h8 =>
 xb (anil x16) fun x23 =>
 xb (afieldAddr P 85 x23 3) fun x24 =>
 xb (aload P h8 25 x24) fun x25 =>
 xstore h8 (astore P h8 25 x8 x25) fun h9 =>
 bif ((rdIs (aload P h7 25 x24) x25 && (rdIs (aload P h8 25 x24) x25 && true)) && true) then (xb (aload P h9 54 x6) fun r =>
 xb (aload P h9 25 x8) fun r_1 =>
 some (.tuple [r, (.int .i64 0), r_1], h9)) else none) (xb (aload P h7 54 x10) fun x26 =>
 xstore h7 (astore P h7 54 x6 x26) fun h8 =>
 xb (anil x16) fun x28 =>
 xb (afieldAddr P 85 x28 1) fun x29 =>
 xb (aload P h8 3 x29) fun x30 =>
 xstore h8 (astore P h8 25 x8 (.agg [(.int .i64 0), (.int .i64 0)])) fun h9 =>
 bif ((rdIs (aload P h7 3 x29) x30 && (rdIs (aload P h8 3 x29) x30 && true)) && true) then (xb (aload P h9 54 x6) fun r =>
 xb (aload P h9 25 x8) fun r_1 =>
 some (.tuple [r, x30, r_1], h9)) else none)
theorem s28_eq (G : CallT) (N : Nat) (x0 : AV) (x1 : AV) (x2 : AV) (H : AHeap) : cF Try.f28 G N (argsF [x0, x1, x2]) H = s28 G x0 x1 x2 H := by
 refine via_top (A := cF Try.f28 G N) (via_leaf _) ?_
 delta s28
 kernel_rfl
theorem run28 (N : Nat) {x0 x1 x2 : AV} {H : AHeap} {r : AV × AHeap} (h : s28 (evw P) x0 x1 x2 H = some r) : evw P 28 [x0, x1, x2] H = some r :=
 runF Try.func28 (by kernel_rfl) (by kernel_rfl) (by kernel_rfl) ((s28_eq (evw P) N x0 x1 x2 H).trans h)
def s45 (G : CallT) (x0 x1 x2 : AV) (H : AHeap) : O :=
 xalloc H [(.int .i64 0), (.int .i64 0)] fun x8 h1 =>
 xlen P .max [3, 3] [x2, (.int .i64 0)] h1 fun x14 =>
 xb (abuild P 85 [(0, x0), (1, x1), (2, x14)]) fun x15 =>
 xmake h1 (boxOf (h1).next x15) fun x16 h2 =>
 xcall h2 (G 73 [x16] h2) fun x18 h3 =>
 xcall h3 (G 49 [x16] h3) fun x20 h4 =>
 xif (some x20) (xb (anil x16) fun x22 =>
 xb (afieldAddr P 85 x22 3) fun x23 =>
 xb (aload P h4 25 x23) fun x24 =>
 xstore h4 (astore P h4 25 x8 x24) fun h5 =>
 xb (aload P h5 25 x8) fun r =>
 some (.tuple [AV.nilSl, (.int .i64 0), r], h5)) (xb (anil x16) fun x27 =>
 xb (afieldAddr P 85 x27 1) fun x28 =>
 xb (aload P h4 3 x28) fun x29 =>
 xstore h4 (astore P h4 25 x8 (.agg [(.int .i64 0), (.int .i64 0)])) fun h5 =>
 xb (aload P h5 25 x8) fun r =>
 some (.tuple [x18, x29, r], h5))
theorem s45_eq (G : CallT) (N : Nat) (x0 : AV) (x1 : AV) (x2 : AV) (H : AHeap) : cF Try.f45 G N (argsF [x0, x1, x2]) H = s45 G x0 x1 x2 H := by
 refine via_top (A := cF Try.f45 G N) (via_leaf _) ?_
 delta s45
 kernel_rfl
theorem run45 (N : Nat) {x0 x1 x2 : AV} {H : AHeap} {r : AV × AHeap} (h : s45 (evw P) x0 x1 x2 H = some r) : evw P 45 [x0, x1, x2] H = some r :=
 runF Try.func45 (by kernel_rfl) (by kernel_rfl) (by kernel_rfl) ((s45_eq (evw P) N x0 x1 x2 H).trans h)
end
end Go.Proofs.Ytnjoomfeddamcaa
namespace Go.Proofs.Ytnjoomfeddamcaa
open Go.Ev
theorem ktok_spec {H : AHeap} {r : Nat} {tv : AV} {s : St} {T : List Tok} (hr : Rd5 H r tv s) (ht : TokSl H tv T) : W (evw P 76 [.ptr r 0 0] H) fun v H' => v = (tokAt T s.at_).v ∧ Pur H H' := by
 unfold Rd5 at hr
 have hl := AHeap.get_lt hr
 refine W_of (fun _ => run76 0) ?_
 by_cases h0 : s.at_ < 0
 ·simp -implicitDefEqProofs (disch := first | assumption | omega | (simp only [nxB]; omega) | (simp only [oneB])) only [s76, xlen, AV.cells, splice, aload, astore, Nat.reduceAdd, Nat.reduceLeDiff, reduceIte, allB, hr, h0, decide_true, W_some]
  exact ⟨by simp [tokAt, h0, Tok.v, Tok.none], Pur.push _ _⟩
 ·rcases ht with ⟨rfl, rfl⟩ | ⟨l, i, cap, rfl, h23⟩
  ·have h1 : (0 : Int) ≤ s.at_ := by omega
   simp -implicitDefEqProofs (disch := first | assumption | omega | (simp only [nxB]; omega) | (simp only [oneB])) only [s76, xlen, AV.cells, splice, aload, astore, Nat.reduceAdd, Nat.reduceLeDiff, reduceIte, allB, hr, h0, h1, decide_true, decide_false, W_some, ln22n]
   exact ⟨by simp [tokAt, h0, Tok.v, Tok.none, h1], Pur.push _ _⟩
  ·by_cases h1 : (T.length : Int) ≤ s.at_
   ·simp -implicitDefEqProofs (disch := first | assumption | omega | (simp only [nxB]; omega) | (simp only [oneB])) only [s76, xlen, AV.cells, splice, aload, astore, Nat.reduceAdd, Nat.reduceLeDiff, reduceIte, allB, hr, h0, h1, decide_true, decide_false, W_some, ln22]
    exact ⟨by simp [tokAt, h0, Tok.v, Tok.none, h1], Pur.push _ _⟩
   ·have hlt : s.at_.toNat < T.length := by omega
    obtain ⟨ro, els, h2, h3⟩ := h23.resolve_left (by rintro rfl; simp at hlt)
    have hl2 := AHeap.get_lt h2
    have h4 := h3 s.at_.toNat T[s.at_.toNat] (by simp [hlt])
    simp only [Tok.cells] at h4
    simp -implicitDefEqProofs (disch := first | assumption | omega | (simp only [nxB]; omega) | (simp only [oneB])) only [s76, xlen, AV.cells, splice, aload, astore, Nat.reduceAdd, Nat.reduceLeDiff, reduceIte, allB, hr, h0, h1, decide_true, decide_false, W_some, ln22, ia22, h2, h4]
    refine ⟨?_, Pur.push _ _⟩
    simp [tokAt, h0, h1, Tok.v, hlt]
theorem kfailed_spec {H : AHeap} {r : Nat} {tv : AV} {s : St} (hr : Rd5 H r tv s) : W (evw P 49 [.ptr r 0 0] H) fun v H' => v = .bool (s.fe != 0) ∧ H' = H := by
 unfold Rd5 at hr
 refine W_of (fun _ => run49 0) ?_
 simp -implicitDefEqProofs (disch := first | assumption | omega | (simp only [nxB]; omega) | (simp only [oneB])) only [s49, xlen, AV.cells, splice, aload, astore, Nat.reduceAdd, Nat.reduceLeDiff, reduceIte, allB, hr]
 exact W_some.2 ⟨rfl, rfl⟩
theorem kfail_spec {H : AHeap} {r : Nat} {T : List Tok} {tv : AV} {s : St} (hx : Ry H r T tv s) (e : Int) : W (evw P 87 [.ptr r 0 0, .int .i64 e] H) fun v H' => v = .tuple [] ∧ Mt r H H' ∧ Ry H' r T tv (failS T e s) := by
 refine W_of (fun _ => run87 0) ?_
 have hr := hx.rd
 have ho1 := hx.tk.one
 rw [s87]
 refine W_call (kfailed_spec hr) ?_
 rintro _ H1 ⟨rfl, rfl⟩
 refine ⟨Nat.le_refl _, ?_⟩
 by_cases h1 : s.fe = 0
 ·rw [show failS T e s = { s with fe := e, fa := (tokAt T s.at_).pos } by simp [failS, h1]]
  simp -implicitDefEqProofs (disch := first | assumption | omega | (simp only [nxB]; omega) | (simp only [oneB])) only [s87, xlen, evB, h1, bne_self_eq_false]
  refine W_call (ktok_spec hr hx.tk) ?_
  rintro _ H2 ⟨rfl, p2⟩
  refine ⟨p2.1, ?_⟩
  have hr2 : Rd5 H2 r tv s := hr.pur p2
  have hr2' := hr2
  unfold Rd5 at hr2'
  simp -implicitDefEqProofs (disch := first | assumption | omega | (simp only [nxB]; omega) | (simp only [oneB])) only [s87, xlen, AV.cells, splice, aload, astore, Nat.reduceAdd, Nat.reduceLeDiff, reduceIte, allB, Tok.v, hr2', ho1]
  obtain ⟨m, hd⟩ := rset hr2 { s with fe := e, fa := (tokAt T s.at_).pos }
  exact W_some.2 ⟨rfl, (p2.mut _).trans m, hx.mut ((p2.mut _).trans m) hd⟩
 ·have h1' : (s.fe != 0) = true := by simpa using h1
  rw [show failS T e s = s by simp [failS, h1]]
  simp -implicitDefEqProofs (disch := first | assumption | omega | (simp only [nxB]; omega) | (simp only [oneB])) only [s87, xlen, evB, h1']
  exact W_some.2 ⟨rfl, Mut.refl _ _, hx⟩
theorem kis_spec {H : AHeap} {r : Nat} {tv : AV} {s : St} {T : List Tok} (hr : Rd5 H r tv s) (ht : TokSl H tv T) (k : Int) (x : List UInt8) : W (evw P 86 [.ptr r 0 0, .int .i64 k, .str x] H) fun v H' => v = .bool (isB T s k x) ∧ Pur H H' := by
 refine W_of (fun _ => run86 0) ?_
 rw [s86]
 refine W_call (ktok_spec hr ht) ?_
 rintro _ H1 ⟨rfl, p1⟩
 refine ⟨p1.1, ?_⟩
 simp -implicitDefEqProofs (disch := first | assumption | omega | (simp only [nxB]; omega) | (simp only [oneB])) only [s86, xlen, AV.cells, splice, aload, astore, Nat.reduceAdd, Nat.reduceLeDiff, reduceIte, allB, Tok.v]
 refine W_call (kfailed_spec (hr.pur (p1.then_push _))) ?_
 rintro _ H2 ⟨rfl, rfl⟩
 refine ⟨Nat.le_refl _, ?_⟩
 by_cases h1 : s.fe = 0
 ·by_cases h2 : (tokAt T s.at_).kind = k
  ·simp -implicitDefEqProofs (disch := first | assumption | omega | (simp only [nxB]; omega) | (simp only [oneB])) only [s86, xlen, AV.cells, splice, aload, astore, Nat.reduceAdd, Nat.reduceLeDiff, reduceIte, allB, W_some, h1, h2, bne_self_eq_false, Bool.not_false, beq_self_eq_true]
   exact ⟨by simp [isB, h1, h2], p1.then_push _⟩
  ·have h2' : ((tokAt T s.at_).kind == k) = false := by simpa using h2
   simp -implicitDefEqProofs (disch := first | assumption | omega | (simp only [nxB]; omega) | (simp only [oneB])) only [s86, xlen, AV.cells, splice, aload, astore, Nat.reduceAdd, Nat.reduceLeDiff, reduceIte, allB, W_some, h1, h2', bne_self_eq_false, Bool.not_false]
   exact ⟨by simp [isB, h2], p1.then_push _⟩
 ·have h1' : (s.fe != 0) = true := by simpa using h1
  simp -implicitDefEqProofs (disch := first | assumption | omega | (simp only [nxB]; omega) | (simp only [oneB])) only [s86, xlen, AV.cells, splice, aload, astore, Nat.reduceAdd, Nat.reduceLeDiff, reduceIte, allB, W_some, h1', Bool.not_true]
  exact ⟨by simp [isB, h1], p1.then_push _⟩
theorem ktakes_spec {H : AHeap} {r : Nat} {T : List Tok} {tv : AV} {s : St} (hx : Ry H r T tv s) (k : Int) (x : List UInt8) : W (evw P 103 [.ptr r 0 0, .int .i64 k, .str x] H) fun v H' => v = .bool (takesS T k x s).1 ∧ Mt r H H' ∧ Ry H' r T tv (takesS T k x s).2 := by
 refine W_of (fun _ => run103 0) ?_
 have ho1 := hx.tk.one
 rw [s103]
 refine W_call (kis_spec hx.rd hx.tk k x) ?_
 rintro _ H1 ⟨rfl, p1⟩
 refine ⟨p1.1, ?_⟩
 have hr2 := hx.rd.pur p1
 have hr2' := hr2
 unfold Rd5 at hr2'
 cases hb : isB T s k x with
 | false =>
  rw [show takesS T k x s = (false, s) by simp [takesS, hb]]
  simp -implicitDefEqProofs (disch := first | assumption | omega | (simp only [nxB]; omega) | (simp only [oneB])) only [s103, xlen, AV.cells, splice, aload, astore, Nat.reduceAdd, Nat.reduceLeDiff, reduceIte, allB, Bool.not_false]
  exact W_some.2 ⟨rfl, p1.mut _, hx.pur p1⟩
 | true =>
  rw [show takesS T k x s = (true, goS s) by simp [takesS, hb]]
  simp -implicitDefEqProofs (disch := first | assumption | omega | (simp only [nxB]; omega) | (simp only [oneB])) only [s103, xlen, AV.cells, splice, aload, astore, Nat.reduceAdd, Nat.reduceLeDiff, reduceIte, allB, hr2', ho1, Bool.not_true]
  obtain ⟨m, hd⟩ := rset hr2 (goS s)
  exact W_some.2 ⟨rfl, (p1.mut _).trans m, hx.mut ((p1.mut _).trans m) hd⟩
theorem kwants_spec {H : AHeap} {r : Nat} {T : List Tok} {tv : AV} {s : St} (hx : Ry H r T tv s) (x : List UInt8) : W (evw P 89 [.ptr r 0 0, .str x] H) fun v H' => v = .tuple [] ∧ Mt r H H' ∧ Ry H' r T tv (wantsS T x s).2 := by
 refine W_of (fun _ => run89 0) ?_
 rw [s89]
 refine W_call (ktakes_spec hx 4 x) ?_
 rintro _ H1 ⟨rfl, m1, hx1⟩
 refine ⟨m1.1, ?_⟩
 cases hb : isB T s 4 x with
 | false =>
  rw [show takesS T 4 x s = (false, s) by simp [takesS, hb]] at hx1 ⊢
  rw [show wantsS T x s = (false, failS T 2 s) by simp [wantsS, hb]]
  simp -implicitDefEqProofs (disch := first | assumption | omega | (simp only [nxB]; omega) | (simp only [oneB])) only [s89, xlen, AV.cells, splice, aload, astore, Nat.reduceAdd, Nat.reduceLeDiff, reduceIte, allB, Bool.not_false]
  refine W_call (kfail_spec hx1 2) ?_
  rintro _ H2 ⟨rfl, m2, hx2⟩
  refine ⟨m2.1, ?_⟩
  exact W_some.2 ⟨rfl, m1.trans m2, hx2⟩
 | true =>
  rw [show takesS T 4 x s = (true, goS s) by simp [takesS, hb]] at hx1 ⊢
  rw [show wantsS T x s = (true, goS s) by simp [wantsS, hb]]
  simp -implicitDefEqProofs (disch := first | assumption | omega | (simp only [nxB]; omega) | (simp only [oneB])) only [s89, xlen, AV.cells, splice, aload, astore, Nat.reduceAdd, Nat.reduceLeDiff, reduceIte, allB, Bool.not_true]
  exact W_some.2 ⟨rfl, m1, hx1⟩
def goesS (at_ e a : Int) (s : St) : St := if e ≠ 0 then { s with fe := e, fa := a } else { s with at_ := at_ }
theorem kgoes_spec {H : AHeap} {r : Nat} {T : List Tok} {tv : AV} {s : St} (hx : Ry H r T tv s) (at_ e a : Int) : W (evw P 104 [.ptr r 0 0, .int .i64 at_, .agg [.int .i64 e, .int .i64 a]] H) fun v H' => v = .tuple [] ∧ Mt r H H' ∧ Ry H' r T tv (goesS at_ e a s) := by
 refine W_of (fun _ => run104 0) ?_
 have ho1 := hx.tk.one
 have hl := hx.rd.lt
 have hbx : ∀ l, boxOf l (.agg [.int .i64 e, .int .i64 a]) = some (.ptr l 0 0, .row false 2 [[.int .i64 e, .int .i64 a]]) := fun l => boxOf_agg l _ rfl
 have p1 := Pur.push H (.row false 2 [[.int .i64 e, .int .i64 a]])
 have hr2 := hx.rd.pur p1
 have hr2' := hr2
 unfold Rd5 at hr2'
 by_cases he : e = 0
 ·have hb : (e != 0) = false := by simp [he]
  rw [show goesS at_ e a s = { s with at_ := at_ } by simp [goesS, he]]
  obtain ⟨m, hd⟩ := rset hr2 { s with at_ := at_ }
  simp -implicitDefEqProofs (disch := first | assumption | omega | (simp only [nxB]; omega) | (simp only [oneB])) only [s104, xlen, AV.cells, splice, aload, astore, Nat.reduceAdd, Nat.reduceLeDiff, reduceIte, allB, hbx, hb, hr2', ho1]
  exact W_some.2 ⟨rfl, (p1.mut _).trans m, hx.mut ((p1.mut _).trans m) hd⟩
 ·have hb : (e != 0) = true := by simpa using he
  rw [show goesS at_ e a s = { s with fe := e, fa := a } by simp [goesS, he]]
  obtain ⟨m, hd⟩ := rset hr2 { s with fe := e, fa := a }
  simp -implicitDefEqProofs (disch := first | assumption | omega | (simp only [nxB]; omega) | (simp only [oneB])) only [s104, xlen, AV.cells, splice, aload, astore, Nat.reduceAdd, Nat.reduceLeDiff, reduceIte, allB, hbx, hb, hr2', ho1]
  exact W_some.2 ⟨rfl, (p1.mut _).trans m, hx.mut ((p1.mut _).trans m) hd⟩
end Go.Proofs.Ytnjoomfeddamcaa

namespace Go.Proofs.Ytnjoomfeddamcaa
open Go.Ev
theorem TokSl.same {H : AHeap} {v : AV} {T : List Tok} (h : TokSl H v T) : rdIs (some v) v = true := by
 rcases h with ⟨rfl, _⟩ | ⟨l, i, cap, rfl, _⟩
 ·exact rdIs_nilSl
 ·exact rdIs_sl _ _ _ _ _
theorem exprP_good {T : List Tok} {s sr : St} {e : Ex} (hf : s.fe = 0) (h : rowF T 800000000 0 (startS s.at_ s.opn) = some (e, sr)) : exprP T s = ((parseS e sr).1, goesS (parseS e sr).2.1 (parseS e sr).2.2.1 (parseS e sr).2.2.2 s) := by
 unfold exprP
 rw [if_neg (by simp [hf]), h]
 by_cases h2 : sr.fe = 0
 ·simp [parseS, goesS, h2]
 ·simp [parseS, goesS, h2]
theorem kexpr_spec {H : AHeap} {r : Nat} {T : List Tok} {tv : AV} {s : St} (hT : T.length ≤ 20000000) (hx : Ry H r T tv s) : W (evw P 90 [.ptr r 0 0] H) (QostE H r T tv (exprP T s).1 (exprP T s).2) := by
 refine W_of (fun _ => run90 0) ?_
 have hl := hx.rd.lt
 have ho1 := hx.tk.one
 have p1 := Pur.push H (.row false 11 [[.int .i64 0, .int .i64 0, .str [], .str [], .int .i64 0, .nilSl, .int .i64 0, .int .i64 0, .int .i64 0, .int .i64 0, .int .i64 0]])
 simp -implicitDefEqProofs (disch := first | assumption | omega | (simp only [nxB]; omega) | (simp only [oneB])) only [s90, xlen, AV.cells, splice, aload, astore, Nat.reduceAdd, Nat.reduceLeDiff, reduceIte, allB]
 refine W_call (kfailed_spec (hx.rd.pur p1)) ?_
 rintro _ H1 ⟨rfl, rfl⟩
 refine ⟨Nat.le_refl _, ?_⟩
 have hx1 := hx.pur p1
 by_cases hf : s.fe = 0
 ·obtain ⟨e, sr, -, -, h1, -, -, -⟩ := both_read hT s.at_ s.opn
  rw [exprP_good hf h1]
  have hr' := hx1.rd
  unfold Rd5 at hr'
  simp -implicitDefEqProofs (disch := first | assumption | omega | (simp only [nxB]; omega) | (simp only [oneB])) only [s90, xlen, AV.cells, splice, aload, astore, Nat.reduceAdd, Nat.reduceLeDiff, reduceIte, allB, hf, bne_self_eq_false, hr']
  refine W_call (parse_spec (by omega) hx1.tk s.at_ s.opn h1) ?_
  rintro _ H2 ⟨v, rfl, hv, p2⟩
  refine ⟨p2.1, ?_⟩
  have b2 := p2.1
  simp only [AHeap.next_push] at b2
  obtain ⟨cs, rfl, n1, o1⟩ := hv.cells
  have hsame := hx.tk.same
  generalize parseS e sr = q at hv ⊢
  have t1 : List.take 11 cs = cs := List.take_of_length_le (by omega)
  simp -implicitDefEqProofs (disch := first | assumption | omega | (simp only [nxB]; omega) | (simp only [oneB])) only [s90, xlen, AV.cells, splice, aload, astore, Nat.reduceAdd, Nat.reduceLeDiff, reduceIte, allB, AHeap.push_set_lt, n1, o1, List.append_nil, hr', hsame, Bool.and_self]
  have p3 := (Pur.push H2 (.row false 11 [cs])).then_push (.row false 2 [[.int .i64 q.2.2.1, .int .i64 q.2.2.2]])
  refine W_call (kgoes_spec ((hx1.pur p2).pur p3) q.2.1 q.2.2.1 q.2.2.2) ?_
  rintro _ H3 ⟨rfl, m3, hx3⟩
  refine ⟨m3.1, ?_⟩
  have b3 := m3.1
  simp only [AHeap.next_push] at b3
  have g3 : H3.get H2.next = some (.row false 11 [cs]) := m3.get (by simp -implicitDefEqProofs (disch := first | assumption | omega | (simp only [nxB]; omega) | (simp only [oneB])) only [heapB]) (by omega)
  have g2 := m3.get (p3.get (p2.get (AHeap.get_push_same H (.row false 11 [[.int .i64 0, .int .i64 0, .str [], .str [], .int .i64 0, .nilSl, .int .i64 0, .int .i64 0, .int .i64 0, .int .i64 0, .int .i64 0]])))) (by omega)
  have l2 := AHeap.get_lt g2
  simp -implicitDefEqProofs (disch := first | assumption | omega | (simp only [nxB]; omega) | (simp only [oneB])) only [s90, xlen, AV.cells, splice, aload, astore, Nat.reduceAdd, Nat.reduceLeDiff, reduceIte, allB, g2, g3, n1, o1, t1, List.append_nil]
  refine W_some.2 (QostE.ret hx ((((p1.trans p2).trans p3).mut _).trans m3) hx3.rd (Nat.le_refl _) (n := H.next + 1) ((hv.mut (r := r) (ok' := Ge (H.next + 1)) ((p3.mut _).trans m3) (by unfold Ge; simp only [AHeap.next_push]; omega) fun l hl => by unfold Ge at *; simp only [AHeap.next_push] at hl; omega)) (Nat.lt_succ_self _) _)
 ·have hf' : (s.fe != 0) = true := by simpa using hf
  have hg := AHeap.get_push_same H (.row false 11 [[.int .i64 0, .int .i64 0, .str [], .str [], .int .i64 0, .nilSl, .int .i64 0, .int .i64 0, .int .i64 0, .int .i64 0, .int .i64 0]])
  rw [show exprP T s = (.zero, s) by simp [exprP, hf]]
  simp -implicitDefEqProofs (disch := first | assumption | omega | (simp only [nxB]; omega) | (simp only [oneB])) only [s90, xlen, AV.cells, splice, aload, astore, Nat.reduceAdd, Nat.reduceLeDiff, reduceIte, allB, hf']
  exact W_some.2 ⟨p1.mut _, hx1, ExV.leaf _ _ { kind := 0 }⟩
theorem ofT_good (T : List Tok) (s : St) : ofT T s = ((Ytnjoomfeddamcaa.ofP (ofS T ⟨s.at_, 0, 0, 0⟩)).1, goesS (Ytnjoomfeddamcaa.ofP (ofS T ⟨s.at_, 0, 0, 0⟩)).2.1 (Ytnjoomfeddamcaa.ofP (ofS T ⟨s.at_, 0, 0, 0⟩)).2.2.1 (Ytnjoomfeddamcaa.ofP (ofS T ⟨s.at_, 0, 0, 0⟩)).2.2.2 s) := by
 generalize hq : ofS T ⟨s.at_, 0, 0, 0⟩ = q
 by_cases h2 : q.2.fe = 0
 ·simp [ofT, hq, Ytnjoomfeddamcaa.ofP, goesS, h2]
 ·simp [ofT, hq, Ytnjoomfeddamcaa.ofP, goesS, h2]
theorem typed_end {H0 H : AHeap} {r : Nat} {T : List Tok} {tv : AV} {s0 s : St} (hx0 : Ry H0 r T tv s0) (mb : Mt r H0 H) (hrd : Rd5 H r tv s) {b : Nat} {x : Bs} {k n q : Int} (hg : H.get H0.next = some (.row false 2 [[.str [], .int .i64 0]])) (hb : H.get b = some (.row false 4 [[.int .i64 k, .str x, .int .i64 n, .int .i64 q]])) (hbn : H0.next < b) :
  W (s105_j0 (evw P) (.ptr r 0 0) (.ptr H0.next 0 0) (.ptr b 0 0) H) fun v H' => v = .tuple [.str (if (wantsS T [58] (goS s)).2.fe ≠ 0 then [] else x), .agg [.str (if (wantsS T [58] (goS s)).2.fe ≠ 0 then ([], 0) else (ofT T (wantsS T [58] (goS s)).2).1).1, .int .i64 (if (wantsS T [58] (goS s)).2.fe ≠ 0 then ([], 0) else (ofT T (wantsS T [58] (goS s)).2).1).2]] ∧ Mt r H0 H' ∧ Ry H' r T tv (if (wantsS T [58] (goS s)).2.fe ≠ 0 then (wantsS T [58] (goS s)).2 else (ofT T (wantsS T [58] (goS s)).2).2) := by
 have hl := hx0.rd.lt
 have ho1 := hx0.tk.one
 have hr := hrd
 unfold Rd5 at hr
 have lg := AHeap.get_lt hg
 have lb := AHeap.get_lt hb
 have hlr := hrd.lt
 obtain ⟨m1, hd1⟩ := rset hrd (goS s)
 simp -implicitDefEqProofs (disch := first | assumption | omega | (simp only [nxB]; omega) | (simp only [oneB])) only [s105, xlen, AV.cells, splice, aload, astore, Nat.reduceAdd, Nat.reduceLeDiff, reduceIte, allB, s105_j0, hr, ho1]
 refine W_call (kwants_spec (hx0.mut (mb.trans m1) hd1) [58]) ?_
 rintro _ H2 ⟨rfl, m2, hx2⟩
 refine ⟨m2.1, ?_⟩
 generalize (wantsS T [58] (goS s)).2 = s2 at hx2 ⊢
 have g2 := m2.get (m1.get hg (by omega)) (by omega)
 have b2 := m2.get (m1.get hb (by omega)) (by omega)
 have mb2 := (mb.trans m1).trans m2
 simp -implicitDefEqProofs (disch := first | assumption | omega | (simp only [nxB]; omega) | (simp only [oneB])) only [s105, xlen, AV.cells, splice, aload, astore, Nat.reduceAdd, Nat.reduceLeDiff, reduceIte, allB]
 refine W_call (kfailed_spec hx2.rd) ?_
 rintro _ H3 ⟨rfl, rfl⟩
 refine ⟨Nat.le_refl _, ?_⟩
 have lg2 := AHeap.get_lt g2
 have lb2 := AHeap.get_lt b2
 by_cases hf : s2.fe = 0
 ·have hr2 := hx2.rd
  unfold Rd5 at hr2
  simp -implicitDefEqProofs (disch := first | assumption | omega | (simp only [nxB]; omega) | (simp only [oneB])) only [s105, xlen, AV.cells, splice, aload, astore, Nat.reduceAdd, Nat.reduceLeDiff, reduceIte, allB, hf, bne_self_eq_false, hr2]
  refine W_call (Of_spec hx2.tk s2.at_) ?_
  rintro _ H4 ⟨rfl, p4⟩
  refine ⟨p4.1, ?_⟩
  have hq := ofT_good T s2
  generalize Ytnjoomfeddamcaa.ofP (ofS T ⟨s2.at_, 0, 0, 0⟩) = q4 at hq ⊢
  have hsame := hx2.tk.same
  have n4 := p4.1
  simp -implicitDefEqProofs (disch := first | assumption | omega | (simp only [nxB]; omega) | (simp only [oneB])) only [s105, xlen, AV.cells, splice, aload, astore, Nat.reduceAdd, Nat.reduceLeDiff, reduceIte, allB, AHeap.push_set_lt, List.append_nil, hr2, hsame, Bool.and_self]
  have p5 := (Pur.push H4 (.row false 2 [[.str q4.1.1, .int .i64 q4.1.2]])).then_push (.row false 2 [[.int .i64 q4.2.2.1, .int .i64 q4.2.2.2]])
  refine W_call (kgoes_spec ((hx2.pur p4).pur p5) q4.2.1 q4.2.2.1 q4.2.2.2) ?_
  rintro _ H6 ⟨rfl, m6, hx6⟩
  refine ⟨m6.1, ?_⟩
  have n6 := m6.1
  simp only [AHeap.next_push] at n6
  have g6 := m6.get (p5.get (p4.get g2)) (by omega)
  have b6 := m6.get (p5.get (p4.get b2)) (by omega)
  have q6 : H6.get H4.next = some (.row false 2 [[.str q4.1.1, .int .i64 q4.1.2]]) := m6.get (by simp -implicitDefEqProofs (disch := first | assumption | omega | (simp only [nxB]; omega) | (simp only [oneB])) only [heapB]) (by omega)
  have lg6 := AHeap.get_lt g6
  simp -implicitDefEqProofs (disch := first | assumption | omega | (simp only [nxB]; omega) | (simp only [oneB])) only [s105, xlen, AV.cells, splice, aload, astore, Nat.reduceAdd, Nat.reduceLeDiff, reduceIte, allB, g6, b6, q6, hf]
  have mf := ((mb2.trans (p4.mut _)).trans (p5.mut _)).trans m6
  have hr6 := hx6.rd
  refine W_some.2 ⟨by rw [hq]; rfl, mf.then_set (.inr (Nat.le_refl _)) _, hx0.mut (mf.then_set (.inr (Nat.le_refl _)) _) ?_⟩
  simp only [ne_eq, not_true_eq_false, if_false, hq]
  unfold Rd5 at hr6 ⊢
  rw [AHeap.get_set_other (by omega)]; exact hr6
 ·have hf' : (s2.fe != 0) = true := by simpa using hf
  simp -implicitDefEqProofs (disch := first | assumption | omega | (simp only [nxB]; omega) | (simp only [oneB])) only [s105, xlen, AV.cells, splice, aload, astore, Nat.reduceAdd, Nat.reduceLeDiff, reduceIte, allB, hf', g2]
  have hr6 := hx2.rd
  refine W_some.2 ⟨by simp [hf], mb2.then_set (.inr (Nat.le_refl _)) _, hx0.mut (mb2.then_set (.inr (Nat.le_refl _)) _) ?_⟩
  simp only [ne_eq, hf, not_false_eq_true, if_true]
  unfold Rd5 at hr6 ⊢
  rw [AHeap.get_set_other (by omega)]; exact hr6
theorem ktyped_spec {H : AHeap} {r : Nat} {T : List Tok} {tv : AV} {s : St} (hx : Ry H r T tv s) : W (evw P 105 [.ptr r 0 0] H) fun v H' => v = .tuple [.str (typedS T s).1.1, .agg [.str (typedS T s).1.2.1, .int .i64 (typedS T s).1.2.2]] ∧ Mt r H H' ∧ Ry H' r T tv (typedS T s).2 := by
 refine W_of (fun _ => run105 0) ?_
 have hl := hx.rd.lt
 have p1 := Pur.push H (.row false 2 [[.str [], .int .i64 0]])
 simp -implicitDefEqProofs (disch := first | assumption | omega | (simp only [nxB]; omega) | (simp only [oneB])) only [s105, xlen, AV.cells, splice, aload, astore, Nat.reduceAdd, Nat.reduceLeDiff, reduceIte, allB]
 refine W_call (ktok_spec (hx.rd.pur p1) (hx.tk.pur p1)) ?_
 rintro _ H2 ⟨rfl, p2⟩
 refine ⟨p2.1, ?_⟩
 have n2 := p2.1
 simp only [AHeap.next_push] at n2
 have p3 := Pur.push H2 (.row false 4 [[.int .i64 (tokAt T s.at_).kind, .str (tokAt T s.at_).text, .int .i64 (tokAt T s.at_).n, .int .i64 (tokAt T s.at_).pos]])
 have g3 := p3.get (p2.get (AHeap.get_push_same H (.row false 2 [[.str [], .int .i64 0]])))
 have b3 := AHeap.get_push_same H2 (.row false 4 [[.int .i64 (tokAt T s.at_).kind, .str (tokAt T s.at_).text, .int .i64 (tokAt T s.at_).n, .int .i64 (tokAt T s.at_).pos]])
 have hx3 := hx.pur ((p1.trans p2).trans p3)
 have fin : ∀ (H5 : AHeap) (s1 : St), s1 = (bif (tokAt T s.at_).kind != 1 then failS T 2 s else s) → Mt r H H5 → Rd5 H5 r tv s1 → H5.get H.next = some (.row false 2 [[.str [], .int .i64 0]]) → H5.get H2.next = some (.row false 4 [[.int .i64 (tokAt T s.at_).kind, .str (tokAt T s.at_).text, .int .i64 (tokAt T s.at_).n, .int .i64 (tokAt T s.at_).pos]]) →
   W (s105_j0 (evw P) (.ptr r 0 0) (.ptr H.next 0 0) (.ptr H2.next 0 0) H5) fun v H' => v = .tuple [.str (typedS T s).1.1, .agg [.str (typedS T s).1.2.1, .int .i64 (typedS T s).1.2.2]] ∧ Mt r H H' ∧ Ry H' r T tv (typedS T s).2 := by
  intro H5 s1 hs1 m5 hd5 hg hb
  refine (typed_end hx m5 hd5 hg hb (by omega)).mono ?_
  rintro v H' ⟨rfl, q1, q2⟩
  have hc : (wantsS T [58] (goS s1)).2 = colonS T s := by rw [hs1]; rfl
  rw [hc] at q2 ⊢
  unfold typedS
  by_cases hz : (colonS T s).fe ≠ 0
  ·simp only [if_pos hz] at q2 ⊢
   exact ⟨trivial, q1, q2⟩
  ·simp only [if_neg hz] at q2 ⊢
   exact ⟨trivial, q1, q2⟩
 cases hk : ((tokAt T s.at_).kind != 1) with
 | true =>
  simp -implicitDefEqProofs (disch := first | assumption | omega | (simp only [nxB]; omega) | (simp only [oneB])) only [s105, xlen, AV.cells, splice, aload, astore, Nat.reduceAdd, Nat.reduceLeDiff, reduceIte, allB, Tok.v, hk]
  refine W_call (kfail_spec hx3 2) ?_
  rintro _ H5 ⟨rfl, m5, hx5⟩
  refine ⟨m5.1, ?_⟩
  exact fin H5 _ (by rw [hk]; rfl) ((((p1.trans p2).trans p3).mut _).trans m5) hx5.rd (m5.get g3 (by omega)) (m5.get b3 (by omega))
 | false =>
  simp -implicitDefEqProofs (disch := first | assumption | omega | (simp only [nxB]; omega) | (simp only [oneB])) only [s105, xlen, AV.cells, splice, aload, astore, Nat.reduceAdd, Nat.reduceLeDiff, reduceIte, allB, Tok.v, hk]
  exact fin _ _ (by rw [hk]; rfl) (((p1.trans p2).trans p3).mut _) hx3.rd g3 b3
end Go.Proofs.Ytnjoomfeddamcaa

namespace Go.Proofs.Ytnjoomfeddamcaa
open Go.Ev
theorem kdecl_spec {H : AHeap} {r : Nat} {T : List Tok} {tv : AV} {s : St} (hx : Ry H r T tv s) : W (evw P 92 [.ptr r 0 0] H) (QostS H r T tv (declS T s).1 (declS T s).2) := by
 refine W_of (fun _ => run92 0) ?_
 have hl := hx.rd.lt
 have p1 := Pur.push H (.row false 9 [[.int .i64 0, .str [], .str [], .int .i64 0, .nilSl, .nilSl, .nilSl, .int .i64 0, .int .i64 0]])
 simp -implicitDefEqProofs (disch := first | assumption | omega | (simp only [nxB]; omega) | (simp only [oneB])) only [s92, xlen, AV.cells, splice, aload, astore, Nat.reduceAdd, Nat.reduceLeDiff, reduceIte, allB, tyC]
 refine W_call (ktyped_spec (hx.pur p1)) ?_
 rintro _ H2 ⟨rfl, m2, hx2⟩
 refine ⟨m2.1, ?_⟩
 unfold declS
 generalize typedS T s = q at hx2 ⊢
 have g2 := m2.get (AHeap.get_push_same H (.row false 9 [[.int .i64 0, .str [], .str [], .int .i64 0, .nilSl, .nilSl, .nilSl, .int .i64 0, .int .i64 0]])) (by omega)
 have l2 := AHeap.get_lt g2
 simp -implicitDefEqProofs (disch := first | assumption | omega | (simp only [nxB]; omega) | (simp only [oneB])) only [s92, xlen, AV.cells, splice, aload, astore, Nat.reduceAdd, Nat.reduceLeDiff, reduceIte, allB, tyC]
 have p3 := Pur.push H2 (.row false 2 [[.str q.1.2.1, .int .i64 q.1.2.2]])
 refine W_call (kwants_spec (hx2.pur p3) [59]) ?_
 rintro _ H5 ⟨rfl, m5, hx5⟩
 refine ⟨m5.1, ?_⟩
 have lr := hx2.rd.lt
 have g5 := m5.get (p3.get g2) (by omega)
 have q5 := m5.get (AHeap.get_push_same H2 (.row false 2 [[.str q.1.2.1, .int .i64 q.1.2.2]])) (by omega)
 have l5 := AHeap.get_lt g5
 simp -implicitDefEqProofs (disch := first | assumption | omega | (simp only [nxB]; omega) | (simp only [oneB])) only [s92, xlen, AV.cells, splice, aload, astore, Nat.reduceAdd, Nat.reduceLeDiff, reduceIte, allB, tyC, g5, q5]
 exact W_some.2 (QostS.fin (a := { kind := 1, name := q.1.1, ofn := q.1.2.1, ofd := q.1.2.2 }) hx ((((p1.mut _).trans m2).trans (p3.mut _)).trans m5) hx5.rd (KsV.nil _ _) (SsV.nil _ _) (SsV.nil _ _) (Nat.le_refl _) (Nat.lt_succ_self _) _)
theorem KsV.made {H H' : AHeap} {r n lo : Nat} {e : Ex} {cs : List AV} (he : ExV H (Ge n) e (.agg cs)) (m : Mt r H H') (hr : r < n) (hlo : lo ≤ n) (h1 : lo ≤ H'.next) : KsV (H'.push (.row false 11 [cs])) (Ge lo) [e] (.sl H'.next 0 1 11 (some 1)) :=
 KsV.one_at (ro := false) (AHeap.get_push_same _ _) h1 (he.mut (m.then_push _) (by unfold Ge; omega) fun l hl => by unfold Ge at *; omega)
theorem klets_spec {H : AHeap} {r : Nat} {T : List Tok} {tv : AV} {s : St} (hT : T.length ≤ 20000000) (hx : Ry H r T tv s) : W (evw P 93 [.ptr r 0 0] H) (QostS H r T tv (letsS T s).1 (letsS T s).2) := by
 refine W_of (fun _ => run93 0) ?_
 have hl := hx.rd.lt
 have p1 := Pur.push H (.row false 9 [[.int .i64 0, .str [], .str [], .int .i64 0, .nilSl, .nilSl, .nilSl, .int .i64 0, .int .i64 0]])
 simp -implicitDefEqProofs (disch := first | assumption | omega | (simp only [nxB]; omega) | (simp only [oneB])) only [s93, xlen, AV.cells, splice, aload, astore, Nat.reduceAdd, Nat.reduceLeDiff, reduceIte, allB, tyC]
 refine W_call (ktyped_spec (hx.pur p1)) ?_
 rintro _ H2 ⟨rfl, m2, hx2⟩
 refine ⟨m2.1, ?_⟩
 unfold letsS
 generalize typedS T s = q at hx2 ⊢
 have g2 := m2.get (AHeap.get_push_same H (.row false 9 [[.int .i64 0, .str [], .str [], .int .i64 0, .nilSl, .nilSl, .nilSl, .int .i64 0, .int .i64 0]])) (by omega)
 have l2 := AHeap.get_lt g2
 simp -implicitDefEqProofs (disch := first | assumption | omega | (simp only [nxB]; omega) | (simp only [oneB])) only [s93, xlen, AV.cells, splice, aload, astore, Nat.reduceAdd, Nat.reduceLeDiff, reduceIte, allB, tyC]
 have p3 := Pur.push H2 (.row false 2 [[.str q.1.2.1, .int .i64 q.1.2.2]])
 refine W_call (kwants_spec (hx2.pur p3) [61]) ?_
 rintro _ H5 ⟨rfl, m5, hx5⟩
 refine ⟨m5.1, ?_⟩
 have lr := hx2.rd.lt
 have g5 := m5.get (p3.get g2) (by omega)
 have q5 := m5.get (AHeap.get_push_same H2 (.row false 2 [[.str q.1.2.1, .int .i64 q.1.2.2]])) (by omega)
 generalize (wantsS T [61] q.2).2 = s5 at hx5 ⊢
 simp -implicitDefEqProofs (disch := first | assumption | omega | (simp only [nxB]; omega) | (simp only [oneB])) only [s93, xlen, AV.cells, splice, aload, astore, Nat.reduceAdd, Nat.reduceLeDiff, reduceIte, allB, tyC]
 refine W_call (kexpr_spec hT hx5) ?_
 rintro v H6 ⟨m6, hx6, he⟩
 refine ⟨m6.1, ?_⟩
 obtain ⟨cs, rfl, n1, o1⟩ := he.cells
 have t1 : List.take 11 cs = cs := List.take_of_length_le (by omega)
 have g6 := m6.get g5 (by omega)
 have q6 := m6.get q5 (by omega)
 generalize exprP T s5 = e6 at hx6 he ⊢
 simp -implicitDefEqProofs (disch := first | assumption | omega | (simp only [nxB]; omega) | (simp only [oneB])) only [s93, xlen, AV.cells, splice, aload, astore, Nat.reduceAdd, Nat.reduceLeDiff, reduceIte, allB, tyC, n1, o1, List.append_nil]
 have p7 := Pur.push H6 (.row false 11 [cs])
 refine W_call (kwants_spec (hx6.pur p7) [59]) ?_
 rintro _ H9 ⟨rfl, m9, hx9⟩
 refine ⟨m9.1, ?_⟩
 have lr6 := hx6.rd.lt
 have g9 := m9.get (p7.get g6) (by omega)
 have q9 := m9.get (p7.get q6) (by omega)
 have e9 := m9.get (AHeap.get_push_same H6 (.row false 11 [cs])) (by omega)
 have l9 := AHeap.get_lt g9
 have hs : ∀ l, sliceOf P l 35 1 [(0, .agg cs)] = some (.sl l 0 1 11 (some 1), .row false 11 [cs]) := fun l => sl35_1 l cs n1 o1
 have b5 := hx5.rd.lt
 have lg5 := AHeap.get_lt g5
 simp -implicitDefEqProofs (disch := first | assumption | omega | (simp only [nxB]; omega) | (simp only [oneB])) only [s93, xlen, AV.cells, splice, aload, astore, Nat.reduceAdd, Nat.reduceLeDiff, reduceIte, allB, tyC, g9, q9, e9, t1, hs]
 exact W_some.2 (QostS.fin (a := { kind := 2, name := q.1.1, ofn := q.1.2.1, ofd := q.1.2.2 }) hx (((((((p1.mut _).trans m2).trans (p3.mut _)).trans m5).trans m6).trans ((p7.mut _).trans m9)).then_push _) (hx9.rd.pur (Pur.push _ _)) (KsV.made he ((p7.mut _).trans m9) b5 (lo := H.next + 1) (by omega) (by omega)) (SsV.nil _ _) (SsV.nil _ _) (Nat.le_refl _) (Nat.lt_succ_self _) _)
theorem kprint_spec {H : AHeap} {r : Nat} {T : List Tok} {tv : AV} {s : St} (hT : T.length ≤ 20000000) (hx : Ry H r T tv s) : W (evw P 97 [.ptr r 0 0] H) (QostS H r T tv (printS T s).1 (printS T s).2) := by
 refine W_of (fun _ => run97 0) ?_
 have hl := hx.rd.lt
 have p1 := Pur.push H (.row false 9 [[.int .i64 0, .str [], .str [], .int .i64 0, .nilSl, .nilSl, .nilSl, .int .i64 0, .int .i64 0]])
 simp -implicitDefEqProofs (disch := first | assumption | omega | (simp only [nxB]; omega) | (simp only [oneB])) only [s97, xlen, AV.cells, splice, aload, astore, Nat.reduceAdd, Nat.reduceLeDiff, reduceIte, allB, tyC]
 refine W_call (kexpr_spec hT (hx.pur p1)) ?_
 rintro v H6 ⟨m6, hx6, he⟩
 refine ⟨m6.1, ?_⟩
 unfold printS
 obtain ⟨cs, rfl, n1, o1⟩ := he.cells
 have t1 : List.take 11 cs = cs := List.take_of_length_le (by omega)
 have g6 := m6.get (AHeap.get_push_same H (.row false 9 [[.int .i64 0, .str [], .str [], .int .i64 0, .nilSl, .nilSl, .nilSl, .int .i64 0, .int .i64 0]])) (by omega)
 generalize exprP T s = e6 at hx6 he ⊢
 simp -implicitDefEqProofs (disch := first | assumption | omega | (simp only [nxB]; omega) | (simp only [oneB])) only [s97, xlen, AV.cells, splice, aload, astore, Nat.reduceAdd, Nat.reduceLeDiff, reduceIte, allB, tyC, n1, o1, List.append_nil]
 have p7 := Pur.push H6 (.row false 11 [cs])
 refine W_call (kwants_spec (hx6.pur p7) [59]) ?_
 rintro _ H9 ⟨rfl, m9, hx9⟩
 refine ⟨m9.1, ?_⟩
 have lr6 := hx6.rd.lt
 have lg6 := AHeap.get_lt g6
 have g9 := m9.get (p7.get g6) (by omega)
 have e9 := m9.get (AHeap.get_push_same H6 (.row false 11 [cs])) (by omega)
 have l9 := AHeap.get_lt g9
 have hs : ∀ l, sliceOf P l 35 1 [(0, .agg cs)] = some (.sl l 0 1 11 (some 1), .row false 11 [cs]) := fun l => sl35_1 l cs n1 o1
 simp -implicitDefEqProofs (disch := first | assumption | omega | (simp only [nxB]; omega) | (simp only [oneB])) only [s97, xlen, AV.cells, splice, aload, astore, Nat.reduceAdd, Nat.reduceLeDiff, reduceIte, allB, tyC, g9, e9, t1, hs]
 exact W_some.2 (QostS.fin (a := { kind := 8 }) hx ((((p1.mut _).trans m6).trans ((p7.mut _).trans m9)).then_push _) (hx9.rd.pur (Pur.push _ _)) (KsV.made he ((p7.mut _).trans m9) (by simp only [AHeap.next_push]; omega) (lo := H.next + 1) (by simp only [AHeap.next_push]; omega) (by omega)) (SsV.nil _ _) (SsV.nil _ _) (Nat.le_refl _) (Nat.lt_succ_self _) _)
theorem rets_end {H0 H : AHeap} {r : Nat} {T : List Tok} {tv : AV} {s0 s : St} (hx0 : Ry H0 r T tv s0) (mb : Mt r H0 H) (hrd : Rd5 H r tv s) {es : List Ex} {ev : AV} (hk : KsV H (Ge (H0.next + 2)) es ev) (g2 : H.get H0.next = some (.row false 9 [[.int .i64 0, .str [], .str [], .int .i64 0, .nilSl, .nilSl, .nilSl, .int .i64 0, .int .i64 0]])) (g3 : H.get (H0.next + 1) = some (.row false 9 [Sa.cells { kind := 7 } ev .nilSl .nilSl])) :
  W (s96_j0 (evw P) (.ptr r 0 0) (.ptr H0.next 0 0) (.ptr (H0.next + 1) 0 0) H) (QostS H0 r T tv (.mk { kind := 7 } es [] []) (wantsS T [59] s).2) := by
 have hl := hx0.rd.lt
 have lg := AHeap.get_lt g3
 have ho := hk.oneAV
 rw [s96_j0]
 refine W_call (kwants_spec (hx0.mut mb hrd) [59]) ?_
 rintro _ H1 ⟨rfl, m1, hx1⟩
 refine ⟨m1.1, ?_⟩
 have h2 := m1.get g2 (by omega)
 have h3 := m1.get g3 (by omega)
 have l2 := AHeap.get_lt h2
 simp only [Sa.cells] at h3
 simp -implicitDefEqProofs (disch := first | assumption | omega | (simp only [nxB]; omega) | (simp only [oneB])) only [s96, xlen, AV.cells, splice, aload, astore, Nat.reduceAdd, Nat.reduceLeDiff, reduceIte, allB, tyC, h2, h3, ho]
 exact W_some.2 (QostS.fin (a := { kind := 7 }) hx0 (mb.trans m1) hx1.rd (hk.keep (Keep.mut m1 (ok' := Ge (H0.next + 1)) (by unfold Ge; omega) fun l hl => by unfold Ge at *; omega)) (SsV.nil _ _) (SsV.nil _ _) (Nat.le_refl _) (Nat.lt_succ_self _) _)
theorem krets_spec {H : AHeap} {r : Nat} {T : List Tok} {tv : AV} {s : St} (hT : T.length ≤ 20000000) (hx : Ry H r T tv s) : W (evw P 96 [.ptr r 0 0] H) (QostS H r T tv (retsS T s).1 (retsS T s).2) := by
 refine W_of (fun _ => run96 0) ?_
 have hl := hx.rd.lt
 simp -implicitDefEqProofs (disch := first | assumption | omega | (simp only [nxB]; omega) | (simp only [oneB])) only [s96, xlen, AV.cells, splice, aload, astore, Nat.reduceAdd, Nat.reduceLeDiff, reduceIte, allB, tyC]
 have p2 := (Pur.push H (.row false 9 [[.int .i64 0, .str [], .str [], .int .i64 0, .nilSl, .nilSl, .nilSl, .int .i64 0, .int .i64 0]])).then_push (.row false 9 [Sa.cells { kind := 7 } .nilSl .nilSl .nilSl])
 refine W_call (kis_spec (hx.rd.pur p2) (hx.tk.pur p2) 4 [59]) ?_
 rintro _ H4 ⟨rfl, p4⟩
 refine ⟨p4.1, ?_⟩
 have n4 := p4.1
 simp only [AHeap.next_push] at n4
 have g2 : H4.get H.next = some (.row false 9 [[.int .i64 0, .str [], .str [], .int .i64 0, .nilSl, .nilSl, .nilSl, .int .i64 0, .int .i64 0]]) := p4.get (by simp -implicitDefEqProofs (disch := first | assumption | omega | (simp only [nxB]; omega) | (simp only [oneB])) only [heapB])
 have g3 : H4.get (H.next + 1) = some (.row false 9 [Sa.cells { kind := 7 } .nilSl .nilSl .nilSl]) := p4.get (AHeap.get_push_same _ _)
 have hx4 := (hx.pur p2).pur p4
 unfold retsS
 cases hb : isB T s 4 [59] with
 | true =>
  simp -implicitDefEqProofs (disch := first | assumption | omega | (simp only [nxB]; omega) | (simp only [oneB])) only [s96, xlen, AV.cells, splice, aload, astore, Nat.reduceAdd, Nat.reduceLeDiff, reduceIte, allB, tyC]
  exact rets_end hx ((p2.trans p4).mut _) hx4.rd (KsV.nil _ _) g2 g3
 | false =>
  simp -implicitDefEqProofs (disch := first | assumption | omega | (simp only [nxB]; omega) | (simp only [oneB])) only [s96, xlen, AV.cells, splice, aload, astore, Nat.reduceAdd, Nat.reduceLeDiff, reduceIte, allB, tyC]
  refine W_call (kexpr_spec hT hx4) ?_
  rintro v H6 ⟨m6, hx6, he⟩
  refine ⟨m6.1, ?_⟩
  obtain ⟨cs, rfl, n1, o1⟩ := he.cells
  have lr4 := hx4.rd.lt
  have h2 := m6.get g2 (by omega)
  have h3 := m6.get g3 (by omega)
  have l3 := AHeap.get_lt h3
  generalize exprP T s = e6 at hx6 he ⊢
  have hs : ∀ l, sliceOf P l 35 1 [(0, .agg cs)] = some (.sl l 0 1 11 (some 1), .row false 11 [cs]) := fun l => sl35_1 l cs n1 o1
  have h3' := h3
  simp only [Sa.cells] at h3'
  simp -implicitDefEqProofs (disch := first | assumption | omega | (simp only [nxB]; omega) | (simp only [oneB])) only [s96, xlen, AV.cells, splice, aload, astore, Nat.reduceAdd, Nat.reduceLeDiff, reduceIte, allB, tyC, hs, h3']
  have mb := ((p2.trans p4).mut (· = r)).trans m6
  have n6 := m6.1
  refine rets_end hx (H := (H6.push (.row false 11 [cs])).set (H.next + 1) (.row false 9 [Sa.cells { kind := 7 } (.sl H6.next 0 1 11 (some 1)) .nilSl .nilSl])) (es := [e6.1]) (ev := .sl H6.next 0 1 11 (some 1)) ?_ ?_ ?_ ?_ ?_
  ·exact (mb.then_push _).then_set (.inr (by omega)) _
  ·have h := hx6.rd
   unfold Rd5 at h ⊢
   rw [AHeap.get_set_other (by omega), AHeap.get_push_other (by omega)]; exact h
  ·exact (KsV.made he (Mut.refl _ _) lr4 (lo := H.next + 2) (by omega) (by omega)).keep (Keep.set _ (by unfold Ge; omega) fun _ h => h)
  ·simp -implicitDefEqProofs (disch := first | assumption | omega | (simp only [nxB]; omega) | (simp only [oneB])) only [heapB, h2]
  ·exact AHeap.get_set_same (by simp only [AHeap.next_push]; omega)
end Go.Proofs.Ytnjoomfeddamcaa

namespace Go.Proofs.Ytnjoomfeddamcaa
open Go.Ev
theorem ExV.below {H : AHeap} {ok : Nat → Prop} {e : Ex} {v : AV} (h : ExV H ok e v) : ExV H (fun l => ok l ∧ l < H.next) e v := ExV.keep (fun _ _ _ h g => ⟨⟨h, AHeap.get_lt g⟩, g⟩) e v h
theorem QostM.fin {ok : Nat → Prop} {H Hf : AHeap} {r : Nat} {T : List Tok} {tv : AV} {s s' : St} {a : Sa} {es : List Ex} {ev : AV} {x : Nat} (hx : Ry H r T tv s) (m : Mt r H Hf) (hd : Rd5 Hf r tv s') (h1 : KsV Hf (fun l => ok l ∧ l ≠ x) es ev) (hb : H.next ≤ x) (blk : ABlk) :
  QostM ok H r T tv (.mk a es [] []) s' (.agg (a.cells ev .nilSl .nilSl)) (Hf.set x blk) := by
 have hl := hx.rd.lt
 have m' := m.then_set (.inr hb) blk
 refine ⟨m', hx.mut m' ?_, StV_mk.2 ⟨ev, .nilSl, .nilSl, rfl, h1.keep (Keep.set _ (by simp) fun l h => h.1), SsV.nil _ _, SsV.nil _ _⟩⟩
 unfold Rd5 at hd ⊢
 rw [AHeap.get_set_other (by omega)]; exact hd
theorem sets_end {ok : Nat → Prop} {H0 H : AHeap} {r : Nat} {T : List Tok} {tv : AV} {s0 s : St} (hT : T.length ≤ 20000000) (hx0 : Ry H0 r T tv s0) (mb : Mt r H0 H) (hrd : Rd5 H r tv s) {a : Ea} {ks : List Ex} {kv : AV} (he : ExV H0 ok (.mk a ks) (.agg (a.cells kv))) (hr : ¬ ok r) (hnew : ∀ l, H0.next ≤ l → ok l)
  (g3 : H.get H0.next = some (.row false 11 [a.cells kv])) (g4 : H.get (H0.next + 1) = some (.row false 9 [[.int .i64 0, .str [], .str [], .int .i64 0, .nilSl, .nilSl, .nilSl, .int .i64 0, .int .i64 0]])) :
  W (s91_j0 (evw P) (.ptr r 0 0) (.ptr H0.next 0 0) (.ptr (H0.next + 1) 0 0) H) (QostM ok H0 r T tv (bif a.kind == 4 then .mk { kind := 3, name := a.name } [(exprP T (wantsS T [61] s).2).1] [] [] else .mk { kind := 4 } [.mk a ks, (exprP T (wantsS T [61] s).2).1] [] []) (wantsS T [59] (exprP T (wantsS T [61] s).2).2).2) := by
 have hl := hx0.rd.lt
 have lg4 := AHeap.get_lt g4
 rw [s91_j0]
 refine W_call (kwants_spec (hx0.mut mb hrd) [61]) ?_
 rintro _ H1 ⟨rfl, m1, hx1⟩
 refine ⟨m1.1, ?_⟩
 have n1 := m1.1
 generalize (wantsS T [61] s).2 = s1 at hx1 ⊢
 simp -implicitDefEqProofs (disch := first | assumption | omega | (simp only [nxB]; omega) | (simp only [oneB])) only [s91, xlen, AV.cells, splice, aload, astore, Nat.reduceAdd, Nat.reduceLeDiff, reduceIte, allB, tyC]
 refine W_call (kexpr_spec hT hx1) ?_
 rintro v H2 ⟨m2, hx2, hv⟩
 refine ⟨m2.1, ?_⟩
 have n2 := m2.1
 obtain ⟨cs, rfl, c1, o1⟩ := hv.cells
 generalize exprP T s1 = e2 at hx2 hv ⊢
 simp -implicitDefEqProofs (disch := first | assumption | omega | (simp only [nxB]; omega) | (simp only [oneB])) only [s91, xlen, AV.cells, splice, aload, astore, Nat.reduceAdd, Nat.reduceLeDiff, reduceIte, allB, tyC, c1, o1, List.append_nil]
 have p3 := Pur.push H2 (.row false 11 [cs])
 refine W_call (kwants_spec (hx2.pur p3) [59]) ?_
 rintro _ H4 ⟨rfl, m4, hx4⟩
 refine ⟨m4.1, ?_⟩
 have n4 := m4.1
 simp only [AHeap.next_push] at n4
 have lr := hx2.rd.lt
 have k3 := m4.get (p3.get (m2.get (m1.get g3 (by omega)) (by omega))) (by omega)
 have k4 := m4.get (p3.get (m2.get (m1.get g4 (by omega)) (by omega))) (by omega)
 have k5 := m4.get (AHeap.get_push_same H2 (.row false 11 [cs])) (by omega)
 have lk4 := AHeap.get_lt k4
 have m24 := (p3.mut (· = r)).trans m4
 have mf := (((mb.trans m1).trans m2).trans m24)
 have t1 : List.take 11 cs = cs := List.take_of_length_le (by omega)
 have hne : ∀ l, Ge H1.next l → ok l ∧ l ≠ H0.next + 1 := fun l h => by
  unfold Ge at h
  exact ⟨hnew l (by omega), by omega⟩
 have hv4 := hv.mut (ok' := fun l => ok l ∧ l ≠ H0.next + 1) m24 (by unfold Ge; have := hx1.rd.lt; omega) hne
 have ho := KsV.oneAV (ExV_mk.1 he).choose_spec.2
 obtain ⟨kv', hkv, hks⟩ := ExV_mk.1 he
 have hkv1 := hks.oneAV
 have hkk : kv' = kv := by
  have := congrArg (fun v => match v with | AV.agg cs => cs[5]? | _ => none) hkv
  simpa [Ea.cells] using this.symm
 rw [hkk] at hkv1
 have he4 : ExV H4 (fun l => ok l ∧ l ≠ H0.next + 1) (.mk a ks) (.agg (a.cells kv)) := he.below.mut mf (fun h => hr h.1) fun l h => ⟨h.1, by omega⟩
 have oa : (a.cells kv).all AV.one = true := by simp only [Ea.cells, List.all_cons, List.all_nil, one_int, one_str, hkv1, Bool.and_self]
 cases hk : a.kind == 4 with
 | true =>
  have hs : ∀ l, sliceOf P l 35 1 [(0, .agg cs)] = some (.sl l 0 1 11 (some 1), .row false 11 [cs]) := fun l => sl35_1 l cs c1 o1
  simp only [Ea.cells] at k3
  simp -implicitDefEqProofs (disch := first | assumption | omega | (simp only [nxB]; omega) | (simp only [oneB])) only [s91, xlen, AV.cells, splice, aload, astore, Nat.reduceAdd, Nat.reduceLeDiff, reduceIte, allB, tyC, k3, k4, k5, hk, t1, hs]
  exact W_some.2 (QostM.fin (a := { kind := 3, name := a.name }) hx0 (mf.then_push _) (hx4.rd.pur (Pur.push _ _)) (KsV.one_at (ro := false) (AHeap.get_push_same _ _) ⟨hnew _ (by omega), by omega⟩ (hv4.pur (Pur.push _ _))) (by omega) _)
 | false =>
  have hs : ∀ l, sliceOf P l 35 2 [(0, .agg (a.cells kv)), (1, .agg cs)] = some (.sl l 0 2 11 (some 2), .row false 11 [a.cells kv, cs]) := fun l => sl35_2 l (a.cells kv) cs rfl oa c1 o1
  have k3' := k3
  simp only [Ea.cells] at k3' hs
  simp -implicitDefEqProofs (disch := first | assumption | omega | (simp only [nxB]; omega) | (simp only [oneB])) only [s91, xlen, AV.cells, splice, aload, astore, Nat.reduceAdd, Nat.reduceLeDiff, reduceIte, allB, tyC, k3', k4, k5, hk, t1, hs]
  exact W_some.2 (QostM.fin (a := { kind := 4 }) hx0 (mf.then_push _) (hx4.rd.pur (Pur.push _ _)) (KsV.two_at (ro := false) (AHeap.get_push_same _ _) ⟨hnew _ (by omega), by omega⟩ (he4.pur (Pur.push _ _)) (hv4.pur (Pur.push _ _))) (by omega) _)
theorem ksets_spec {ok : Nat → Prop} {H : AHeap} {r : Nat} {T : List Tok} {tv : AV} {s : St} (hT : T.length ≤ 20000000) (hx : Ry H r T tv s) {e : Ex} {v : AV} (he : ExV H ok e v) (hr : ¬ ok r) (hnew : ∀ l, H.next ≤ l → ok l) : W (evw P 91 [.ptr r 0 0, v] H) (QostM ok H r T tv (setsS T e s).1 (setsS T e s).2) := by
 refine W_of (fun _ => run91 0) ?_
 have hl := hx.rd.lt
 cases e with | mk a ks =>
 obtain ⟨kv, rfl, hk⟩ := ExV_mk.1 he
 have hk1 := hk.oneAV
 have oa : (a.cells kv).all AV.one = true := by simp only [Ea.cells, List.all_cons, List.all_nil, one_int, one_str, hk1, Bool.and_self]
 have hbx : ∀ l, boxOf l (.agg (a.cells kv)) = some (.ptr l 0 0, .row false 11 [a.cells kv]) := fun l => boxOf_agg l _ oa
 simp only [Ea.cells] at hbx ⊢
 have p2 := (Pur.push H (.row false 11 [a.cells kv])).then_push (.row false 9 [[.int .i64 0, .str [], .str [], .int .i64 0, .nilSl, .nilSl, .nilSl, .int .i64 0, .int .i64 0]])
 have hx2 := hx.pur p2
 have fin : ∀ (H3 : AHeap), Mt r H H3 → Rd5 H3 r tv (bif exK (.mk a ks) then failS T 2 s else s) → H3.get H.next = some (.row false 11 [a.cells kv]) → H3.get (H.next + 1) = some (.row false 9 [[.int .i64 0, .str [], .str [], .int .i64 0, .nilSl, .nilSl, .nilSl, .int .i64 0, .int .i64 0]]) →
   W (s91_j0 (evw P) (.ptr r 0 0) (.ptr H.next 0 0) (.ptr (H.next + 1) 0 0) H3) (QostM ok H r T tv (setsS T (.mk a ks) s).1 (setsS T (.mk a ks) s).2) := fun H3 m3 hd3 g3 g4 => sets_end hT hx m3 hd3 he hr hnew g3 g4
 have g3 : ((H.push (.row false 11 [a.cells kv])).push (.row false 9 [[.int .i64 0, .str [], .str [], .int .i64 0, .nilSl, .nilSl, .nilSl, .int .i64 0, .int .i64 0]])).get H.next = some (.row false 11 [a.cells kv]) := by simp -implicitDefEqProofs (disch := first | assumption | omega | (simp only [nxB]; omega) | (simp only [oneB])) only [heapB]
 have g4 := AHeap.get_push_same (H.push (.row false 11 [a.cells kv])) (.row false 9 [[.int .i64 0, .str [], .str [], .int .i64 0, .nilSl, .nilSl, .nilSl, .int .i64 0, .int .i64 0]])
 have g3' := g3
 simp only [Ea.cells] at g3'
 cases k4 : (a.kind != 4) with
 | false =>
  have hex : exK (.mk a ks) = false := by simp only [exK, Ex.kind, k4, Bool.false_and]
  rw [hex] at fin
  simp -implicitDefEqProofs (disch := first | assumption | omega | (simp only [nxB]; omega) | (simp only [oneB])) only [s91, xlen, AV.cells, splice, aload, astore, Nat.reduceAdd, Nat.reduceLeDiff, reduceIte, allB, tyC, hbx, k4]
  exact fin _ (p2.mut _) hx2.rd g3 g4
 | true =>
  cases k5 : (a.kind != 5) with
  | false =>
   have hex : exK (.mk a ks) = false := by simp only [exK, Ex.kind, k4, k5, Bool.false_and, Bool.and_false]
   rw [hex] at fin
   simp -implicitDefEqProofs (disch := first | assumption | omega | (simp only [nxB]; omega) | (simp only [oneB])) only [s91, xlen, AV.cells, splice, aload, astore, Nat.reduceAdd, Nat.reduceLeDiff, reduceIte, allB, tyC, hbx, k4, k5]
   exact fin _ (p2.mut _) hx2.rd g3 g4
  | true =>
   cases k6 : (a.kind != 6) with
   | false =>
    have hex : exK (.mk a ks) = false := by simp only [exK, Ex.kind, k4, k5, k6, Bool.and_false]
    rw [hex] at fin
    simp -implicitDefEqProofs (disch := first | assumption | omega | (simp only [nxB]; omega) | (simp only [oneB])) only [s91, xlen, AV.cells, splice, aload, astore, Nat.reduceAdd, Nat.reduceLeDiff, reduceIte, allB, tyC, hbx, k4, k5, k6]
    exact fin _ (p2.mut _) hx2.rd g3 g4
   | true =>
    have hex : exK (.mk a ks) = true := by simp only [exK, Ex.kind, k4, k5, k6, Bool.and_self]
    rw [hex] at fin
    simp -implicitDefEqProofs (disch := first | assumption | omega | (simp only [nxB]; omega) | (simp only [oneB])) only [s91, xlen, AV.cells, splice, aload, astore, Nat.reduceAdd, Nat.reduceLeDiff, reduceIte, allB, tyC, hbx, k4, k5, k6]
    refine W_call (kfail_spec hx2 2) ?_
    rintro _ H3 ⟨rfl, m3, hx3⟩
    refine ⟨m3.1, ?_⟩
    exact fin H3 ((p2.mut _).trans m3) hx3.rd (m3.get g3 (by omega)) (m3.get g4 (by simp only [AHeap.next_push] at *; omega))
theorem plain_end {H0 H : AHeap} {r : Nat} {T : List Tok} {tv : AV} {s0 s : St} (hx0 : Ry H0 r T tv s0) (mb : Mt r H0 H) (hrd : Rd5 H r tv s) {e : Ex} {cs : List AV} {b : Nat} (he : ExV H (Ge (H0.next + 1)) e (.agg cs)) (hb : H0.next < b) (g2 : H.get H0.next = some (.row false 9 [[.int .i64 0, .str [], .str [], .int .i64 0, .nilSl, .nilSl, .nilSl, .int .i64 0, .int .i64 0]])) (g3 : H.get b = some (.row false 11 [cs])) :
  W (s77_j0 (evw P) (.ptr r 0 0) (.ptr H0.next 0 0) (.ptr b 0 0) H) (QostS H0 r T tv (.mk { kind := 9 } [e] [] []) (wantsS T [59] s).2) := by
 have hl := hx0.rd.lt
 rw [s77_j0]
 refine W_call (kwants_spec (hx0.mut mb hrd) [59]) ?_
 rintro _ H1 ⟨rfl, m1, hx1⟩
 refine ⟨m1.1, ?_⟩
 obtain ⟨cs', hcs, c1, o1⟩ := he.cells
 cases hcs
 have h2 := m1.get g2 (by omega)
 have h3 := m1.get g3 (by omega)
 have l2 := AHeap.get_lt h2
 have t1 : List.take 11 cs = cs := List.take_of_length_le (by omega)
 have hs : ∀ l, sliceOf P l 35 1 [(0, .agg cs)] = some (.sl l 0 1 11 (some 1), .row false 11 [cs]) := fun l => sl35_1 l cs c1 o1
 simp -implicitDefEqProofs (disch := first | assumption | omega | (simp only [nxB]; omega) | (simp only [oneB])) only [s77, xlen, AV.cells, splice, aload, astore, Nat.reduceAdd, Nat.reduceLeDiff, reduceIte, allB, tyC, h2, h3, t1, hs]
 exact W_some.2 (QostS.fin (a := { kind := 9 }) hx0 ((mb.trans m1).then_push _) (hx1.rd.pur (Pur.push _ _)) (KsV.made he m1 (by omega) (lo := H0.next + 1) (by omega) (by omega)) (SsV.nil _ _) (SsV.nil _ _) (Nat.le_refl _) (Nat.lt_succ_self _) _)
theorem kplain_spec {H : AHeap} {r : Nat} {T : List Tok} {tv : AV} {s : St} (hT : T.length ≤ 20000000) (hx : Ry H r T tv s) : W (evw P 77 [.ptr r 0 0] H) (QostS H r T tv (plainS T s).1 (plainS T s).2) := by
 refine W_of (fun _ => run77 0) ?_
 have hl := hx.rd.lt
 have p1 := Pur.push H (.row false 9 [[.int .i64 0, .str [], .str [], .int .i64 0, .nilSl, .nilSl, .nilSl, .int .i64 0, .int .i64 0]])
 simp -implicitDefEqProofs (disch := first | assumption | omega | (simp only [nxB]; omega) | (simp only [oneB])) only [s77, xlen, AV.cells, splice, aload, astore, Nat.reduceAdd, Nat.reduceLeDiff, reduceIte, allB, tyC]
 refine W_call (kexpr_spec hT (hx.pur p1)) ?_
 rintro v H2 ⟨m2, hx2, he⟩
 refine ⟨m2.1, ?_⟩
 have n2 := m2.1
 simp only [AHeap.next_push] at n2
 unfold plainS
 obtain ⟨cs, rfl, c1, o1⟩ := he.cells
 have t1 : List.take 11 cs = cs := List.take_of_length_le (by omega)
 have g2 := m2.get (AHeap.get_push_same H (.row false 9 [[.int .i64 0, .str [], .str [], .int .i64 0, .nilSl, .nilSl, .nilSl, .int .i64 0, .int .i64 0]])) (by omega)
 generalize exprP T s = e2 at hx2 he ⊢
 simp -implicitDefEqProofs (disch := first | assumption | omega | (simp only [nxB]; omega) | (simp only [oneB])) only [s77, xlen, AV.cells, splice, aload, astore, Nat.reduceAdd, Nat.reduceLeDiff, reduceIte, allB, tyC, c1, o1, List.append_nil]
 have p3 := Pur.push H2 (.row false 11 [cs])
 refine W_call (kis_spec (hx2.rd.pur p3) (hx2.tk.pur p3) 4 [61]) ?_
 rintro _ H4 ⟨rfl, p4⟩
 refine ⟨p4.1, ?_⟩
 have n4 := p4.1
 simp only [AHeap.next_push] at n4
 have p34 := p3.trans p4
 have g4 := p34.get g2
 have l4 := AHeap.get_lt g4
 have e4 := p4.get (AHeap.get_push_same H2 (.row false 11 [cs]))
 have he4 : ExV H4 (Ge (H.next + 1)) e2.1 (.agg cs) := ExV.keep (Keep.pur p34 fun l hl => by unfold Ge at *; simp only [AHeap.next_push] at hl; omega) _ _ he
 have mb := ((p1.mut (· = r)).trans m2).trans (p34.mut _)
 have hx4 := hx2.pur p34
 cases hb : isB T e2.2 4 [61] with
 | true =>
  simp -implicitDefEqProofs (disch := first | assumption | omega | (simp only [nxB]; omega) | (simp only [oneB])) only [s77, xlen, AV.cells, splice, aload, astore, Nat.reduceAdd, Nat.reduceLeDiff, reduceIte, allB, tyC, e4, t1]
  refine W_call (ksets_spec hT hx4 he4 (by unfold Ge; omega) (fun l hl => by unfold Ge; omega)) ?_
  rintro w H5 ⟨m5, hx5, hw⟩
  refine ⟨m5.1, ?_⟩
  obtain ⟨ds, rfl, d1, o2⟩ := hw.cells
  have td : List.take 9 ds = ds := List.take_of_length_le (by omega)
  have g5 := m5.get g4 (by omega)
  have l5 := AHeap.get_lt g5
  simp -implicitDefEqProofs (disch := first | assumption | omega | (simp only [nxB]; omega) | (simp only [oneB])) only [s77, xlen, AV.cells, splice, aload, astore, Nat.reduceAdd, Nat.reduceLeDiff, reduceIte, allB, tyC, g5, d1, o2, td, List.append_nil]
  exact W_some.2 (QostS.ret hx (mb.trans m5) hx5.rd (Nat.le_refl _) hw (Nat.lt_succ_self _) _)
 | false =>
  simp -implicitDefEqProofs (disch := first | assumption | omega | (simp only [nxB]; omega) | (simp only [oneB])) only [s77, xlen, AV.cells, splice, aload, astore, Nat.reduceAdd, Nat.reduceLeDiff, reduceIte, allB, tyC]
  refine W_call (kis_spec hx4.rd hx4.tk 4 [59]) ?_
  rintro _ H5 ⟨rfl, p5⟩
  refine ⟨p5.1, ?_⟩
  have e5 := p5.get e4
  have g5 := p5.get g4
  have hx5 := hx4.pur p5
  have he5 := he4.pur p5
  have mb5 := mb.trans (p5.mut _)
  cases h59 : isB T e2.2 4 [59] with
  | false =>
   simp -implicitDefEqProofs (disch := first | assumption | omega | (simp only [nxB]; omega) | (simp only [oneB])) only [s77, xlen, AV.cells, splice, aload, astore, Nat.reduceAdd, Nat.reduceLeDiff, reduceIte, allB, tyC]
   simp only [Bool.false_and, cond_false]
   exact plain_end hx mb5 hx5.rd he5 (by omega) g5 e5
  | true =>
   rcases he2 : e2.1 with ⟨a, ks⟩
   rw [he2] at he5
   obtain ⟨kv, hcs, -⟩ := ExV_mk.1 he5
   simp only [AV.agg.injEq] at hcs
   subst hcs
   have e5' := e5
   simp only [Ea.cells] at e5'
   cases hk : (a.kind != 7) with
   | false =>
    simp -implicitDefEqProofs (disch := first | assumption | omega | (simp only [nxB]; omega) | (simp only [oneB])) only [s77, xlen, AV.cells, splice, aload, astore, Nat.reduceAdd, Nat.reduceLeDiff, reduceIte, allB, tyC, e5', hk]
    simp only [Ex.kind, hk, Bool.and_false, cond_false]
    exact plain_end hx mb5 hx5.rd he5 (by omega) g5 e5
   | true =>
    simp -implicitDefEqProofs (disch := first | assumption | omega | (simp only [nxB]; omega) | (simp only [oneB])) only [s77, xlen, AV.cells, splice, aload, astore, Nat.reduceAdd, Nat.reduceLeDiff, reduceIte, allB, tyC, e5', hk]
    simp only [Ex.kind, hk, Bool.and_self, cond_true]
    refine W_call (kfail_spec hx5 2) ?_
    rintro _ H6 ⟨rfl, m6, hx6⟩
    refine ⟨m6.1, ?_⟩
    exact plain_end hx (mb5.trans m6) hx6.rd (he5.mut m6 (by unfold Ge; omega) fun _ h => h) (by omega) (m6.get g5 (by omega)) (m6.get e5 (by omega))
end Go.Proofs.Ytnjoomfeddamcaa

