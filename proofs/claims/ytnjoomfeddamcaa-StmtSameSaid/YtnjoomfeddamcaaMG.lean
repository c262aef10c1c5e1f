/-
  Texts of one proof, laid together: Z10 Z11 X2 X3 X4 X5 X6.
-/
import Derived.Test.YtnjoomfeddamcaaMF
set_option linter.unusedVariables false
set_option linter.unusedSimpArgs false
namespace Go.Proofs.Ytnjoomfeddamcaa
open Go.Ev
theorem Both.pure {α : Type} {T : List Tok} {s : St} {p q : α × St} (h : Same p q) (hl : left T p.2 ≤ left T s) : Both T s (some p) (some q) := ⟨p, q, rfl, rfl, h, hl⟩
theorem Both.map {α β : Type} {T : List Tok} {s : St} {a b : Option (α × St)} (h : Both T s a b) (f : α → β) : Both T s (a.bind fun p => some (f p.1, p.2)) (b.bind fun p => some (f p.1, p.2)) := by
 obtain ⟨p, q, rfl, rfl, h3, h4⟩ := h
 refine ⟨(f p.1, p.2), (f q.1, q.2), rfl, rfl, ?_, h4⟩
 rcases h3 with ⟨h, rfl⟩ | ⟨h, h1, h2⟩
 ·exact .inl ⟨h, rfl⟩
 ·exact .inr ⟨h, h1, h2⟩
theorem name_both {T : List Tok} (hT : T.length ≤ 40000000) {k : Nat} (ih : ∀ j, j < k → RowB T j) {s : St} (hf : s.fe = 0) (hk : (tokAt T s.at_).kind = 1) (hs : left T s ≤ k) (n n' : Nat) (hn : 30 * k + 9 ≤ n) (hn' : 30 * k + 9 ≤ n') :
  Both T s (nameF T (n + 1) s) (bif isR T (nameR T s).2 [40] then (argsR T (n' + 1) (nameR T s).2).bind fun p => some (.mk { kind := 7, name := (nameR T s).1, pos := (tokAt T s.at_).pos } p.1, p.2) else some (.mk { kind := 4, name := (nameR T s).1, pos := (tokAt T s.at_).pos } [], (nameR T s).2)) := by
 have hN : nameR T s = ((tokAt T s.at_).text, goS s) := by simp [nameR, hf, hk]
 have hg := left_go hT hf (by rw [hk]; decide)
 have e1 : isR T (goS s) [40] = isB T (goS s) 4 [40] := rfl
 rw [hN]
 simp only [nameF, e1]
 cases isB T (goS s) 4 [40] with
 | true =>
  obtain ⟨n, rfl⟩ : ∃ m, n = m + 1 := ⟨n - 1, by omega⟩
  have := args_both hT (k := k - 1) (fun j hj => ih j (by omega)) (s := goS s) hf (by omega) n n' (by omega) (by omega)
  exact (this.map fun l => Ex.mk { kind := 7, name := (tokAt T s.at_).text, pos := (tokAt T s.at_).pos } l).le (by omega)
 | false => exact Both.pure (.inl ⟨hf, rfl⟩) (by simp only; omega)
theorem fresh_both {T : List Tok} (hT : T.length ≤ 40000000) {k : Nat} (ih : ∀ j, j < k → RowB T j) {s : St} (hf : s.fe = 0) (hk : (tokAt T s.at_).kind = 3) (hs : left T s ≤ k) (n n' : Nat) (hn : 30 * k + 9 ≤ n) (hn' : 30 * k + 9 ≤ n') :
  Both T s (freshF T (n + 1) s) (freshR T (n' + 1) (tokAt T s.at_).pos (goS s)) := by
 have hg := left_go hT hf (by rw [hk]; decide)
 have hfg : (goS s).fe = 0 := hf
 have e1 : isR T (goS s) [91] = isB T (goS s) 4 [91] := rfl
 simp only [freshF, freshR, e1]
 cases hb : isB T (goS s) 4 [91] with
 | true =>
  have hg2 := left_is hT (by decide) hb
  have ho := of_same T (goS (goS s))
  have hw := wants_same (T := T) (x := [93]) ho.st rfl
  have hl1 := left_of hT (goS (goS s))
  have hl2 := left_wants hT (ofS T (goS (goS s))).2 [93]
  simp only [cond_true]
  obtain ⟨n, rfl⟩ : ∃ m, n = m + 1 := ⟨n - 1, by omega⟩
  obtain ⟨n', rfl⟩ : ∃ m, n' = m + 1 := ⟨n' - 1, by omega⟩
  by_cases hp : (wantsS T [93] (ofS T (goS (goS s))).2).2.fe = 0
  ·have hof : (ofS T (goS (goS s))).2.fe = 0 := by
    by_cases h : (ofS T (goS (goS s))).2.fe = 0
    ·exact h
    ·exact absurd hp (by simp only [wantsS, isB_failed h, cond_false, failS_failed h]; exact h)
   have hoe := (ho.resolve_right (by rintro ⟨h, _⟩; exact h hof)).2
   have hwe := (hw.resolve_right (by rintro ⟨h, _⟩; exact h hp)).2
   rw [hoe] at hwe
   rw [hoe, hwe]
   have := single_both hT (k := k - 1) (fun j hj => ih j (by omega)) (s := (wantsS T [93] (ofS T (goS (goS s))).2).2) hp (by omega) n n' (by omega) (by omega)
   exact (this.map fun e => Ex.mk { kind := 9, ofn := (ofS T (goS (goS s))).1.1, ofd := (ofS T (goS (goS s))).1.2, pos := (tokAt T s.at_).pos } [e]).le (by omega)
  ·have hw' := hw.resolve_left (by rintro ⟨h, _⟩; exact hp h)
   have hR : (takeR T [93] (ofR T (goS (goS s))).2).fe ≠ 0 := by rw [hw'.2.1]; exact hp
   have hb1 : (opensS T [40] (wantsS T [93] (ofS T (goS (goS s))).2).2) = (false, (wantsS T [93] (ofS T (goS (goS s))).2).2) := by simp [opensS, isB_failed hp, failS_failed hp]
   have hb2 : opensR T [40] (takeR T [93] (ofR T (goS (goS s))).2) = inS (takeR T [93] (ofR T (goS (goS s))).2) := by
    simp only [opensR, isR_failed hR, Bool.false_and, cond_false]
    rw [takeR, isR_failed hR, cond_false, failS_failed hR]
   have hR2 : (inS (takeR T [93] (ofR T (goS (goS s))).2)).fe ≠ 0 := hR
   have hc : closesR T [41] (inS (takeR T [93] (ofR T (goS (goS s))).2)) = outS (inS (takeR T [93] (ofR T (goS (goS s))).2)) := by
    unfold closesR
    rw [takeR, isR_failed hR2, cond_false, failS_failed hR2]
   have hsf : singleF T (n + 1) [40] [41] (wantsS T [93] (ofS T (goS (goS s))).2).2 = some (.zero, (wantsS T [93] (ofS T (goS (goS s))).2).2) := by simp [singleF, hb1]
   have hin : innerR T (n' + 1) (takeR T [93] (ofR T (goS (goS s))).2) = some (deadE T (inS (takeR T [93] (ofR T (goS (goS s))).2)), outS (inS (takeR T [93] (ofR T (goS (goS s))).2))) := by
    simp only [innerR, hb2, exprR_failed hR2 n' 0 (by omega) (by omega), Option.bind_some, hc]
   simp only [hsf, hin, Option.bind_some]
   exact Both.pure (.inr ⟨hp, hw'.2.1, hw'.2.2⟩) (by simp only [left_failed hp]; omega)
 | false =>
  simp only [cond_false]
  by_cases hk' : (tokAt T (goS s).at_).kind = 1
  ·have hb : ((tokAt T (goS s).at_).kind != 1) = false := by simp [hk']
   have := left_go hT hfg (by rw [hk']; decide)
   have e1' : nameR T (goS s) = ((tokAt T (goS s).at_).text, goS (goS s)) := by simp [nameR, hfg, hk']
   simp only [hb, cond_false, e1']
   exact Both.pure (.inl ⟨hf, rfl⟩) (by simp only; omega)
  ·have hb : ((tokAt T (goS s).at_).kind == 1) = false := by simpa using hk'
   have hb' : ((tokAt T (goS s).at_).kind != 1) = true := by simpa using hk'
   have h2 := failS_fe (T := T) hfg 2
   have h3 : (goS (failS T 2 (goS s))).fe ≠ 0 := by show (failS T 2 (goS s)).fe ≠ 0; rw [h2.1]; decide
   simp only [hb', cond_true, nameR, hb, Bool.and_false, cond_false]
   exact Both.pure (.inr ⟨h3, rfl, rfl⟩) (by simp only [left_failed h3]; omega)
end Go.Proofs.Ytnjoomfeddamcaa

namespace Go.Proofs.Ytnjoomfeddamcaa
open Go.Ev
theorem isR_at {T : List Tok} {s : St} (hf : s.fe = 0) (x : Bs) : isR T s x = ((tokAt T s.at_).kind == kw x && (tokAt T s.at_).text == x) := by simp [isR, isB, hf]
theorem left_opens {T : List Tok} (hT : T.length ≤ 40000000) (s : St) (x : Bs) : left T (opensS T x s).2 ≤ left T s := by
 cases h : isB T s 4 x with
 | true =>
  simp only [opensS, h, cond_true]
  split
  ·exact left_fail s 4
  ·have := left_is hT (by decide) h
   have e : left T { s with at_ := w64 (s.at_ + 1), opn := w64 (s.opn + 1) } = left T (goS s) := rfl
   simp only [e]; omega
 | false => simp only [opensS, h, cond_false]; exact left_fail s 2
theorem read_same {T : List Tok} {s : St} (hf : s.fe = 0) : Same (readS T s) (Ex.mk { kind := 11, pos := (tokAt T s.at_).pos } [], closesR T [41] (opensR T [40] (goS s))) := by
 have hfg : (goS s).fe = 0 := hf
 simp only [readS]
 rcases opens_same (T := T) hfg (x := [40]) rfl with ⟨h1, h2, h3, h4⟩ | ⟨h1, h2, h3⟩
 ·simp only [h1, h3, h4, cond_true]
  exact Same.of (closes_same (.refl _) rfl) fun _ => rfl
 ·simp only [h1, cond_false]
  have h3' := h3.resolve_left (by rintro ⟨h, _⟩; exact h2 h)
  have hR : (opensR T [40] (goS s)).fe ≠ 0 := by rw [h3'.2.1]; exact h2
  refine .inr ⟨h2, ?_, ?_⟩ <;> simp [closesR, takeR, isR_failed hR, failS_failed hR, outS, h3'.2.1, h3'.2.2]
theorem left_read {T : List Tok} (hT : T.length ≤ 40000000) (s : St) : left T (readS T s).2 ≤ left T (goS s) := by
 have h1 := left_opens hT (goS s) [40]
 simp only [readS]
 cases (opensS T [40] (goS s)).1 with
 | true => simp only [cond_true]; have := left_closes hT (opensS T [40] (goS s)).2 [41]; omega
 | false => simp only [cond_false]; omega
theorem first_bad {T : List Tok} {s : St} (hf : s.fe = 0) (h1 : (tokAt T s.at_).kind ≠ 1) : nameR T s = ([], failS T 2 s) ∧ (failS T 2 s).fe ≠ 0 := by
 have hb : ((tokAt T s.at_).kind == 1) = false := by simpa using h1
 exact ⟨by simp [nameR, hb], by rw [(failS_fe hf 2).1]; decide⟩
theorem first_both {T : List Tok} (hT : T.length ≤ 40000000) {k : Nat} (ih : ∀ j, j < k → RowB T j) {s : St} (hf : s.fe = 0) (hs : left T s ≤ k) (n n' : Nat) (hn : 30 * k + 10 ≤ n) (hn' : 30 * k + 10 ≤ n') :
  Both T s (firstF T (n + 1) s) (firstR T (n' + 1) s) := by
 obtain ⟨n, rfl⟩ : ∃ m, n = m + 1 := ⟨n - 1, by omega⟩
 obtain ⟨n', rfl⟩ : ∃ m, n' = m + 1 := ⟨n' - 1, by omega⟩
 have hb : (s.fe == 0) = true := by simpa using hf
 have k1 : kw [116, 114, 117, 101] = 3 := rfl
 have k2 : kw [102, 97, 108, 115, 101] = 3 := rfl
 have k3 : kw [110, 117, 108, 108] = 3 := rfl
 have k4 : kw [110, 101, 119] = 3 := rfl
 have k5 : kw [108, 101, 110] = 3 := rfl
 have k6 : kw [114, 101, 97, 100] = 3 := rfl
 have k7 : kw [40] = 4 := rfl
 have hbad : (tokAt T s.at_).kind ≠ 1 → Both T s (some (Ex.zero, failS T 2 s)) (bif isR T (nameR T s).2 [40] then (argsR T (n' + 1) (nameR T s).2).bind fun p => some (.mk { kind := 7, name := (nameR T s).1, pos := (tokAt T s.at_).pos } p.1, p.2) else some (.mk { kind := 4, name := (nameR T s).1, pos := (tokAt T s.at_).pos } [], (nameR T s).2)) := by
  intro h1
  obtain ⟨e1, e2⟩ := first_bad (T := T) hf h1
  rw [e1]
  simp only [isR_failed e2, cond_false]
  exact Both.pure (.inr ⟨e2, rfl, rfl⟩) (left_fail s 2)
 by_cases h2 : (tokAt T s.at_).kind = 2
 ·have := left_go hT hf (by rw [h2]; decide)
  simp only [firstF, firstR, hf, h2, ne_eq, not_true, if_false, if_true, beq_self_eq_true, Bool.and_self, cond_true]
  exact Both.pure (.inl ⟨hf, rfl⟩) (by simp only; omega)
 have b2 : ((tokAt T s.at_).kind == 2) = false := by simpa using h2
 by_cases h1 : (tokAt T s.at_).kind = 1
 ·have := name_both hT ih hf h1 hs n n' (by omega) (by omega)
  have e31 : ((1 : Int) == 3) = false := rfl
  have e41 : ((1 : Int) == 4) = false := rfl
  have e21 : ((1 : Int) == 2) = false := rfl
  have e12 : ¬ ((1 : Int) = 2) := by decide
  simpa only [firstF, firstR, hf, h1, e12, ne_eq, not_true, if_false, if_true, beq_self_eq_true, Bool.and_false, Bool.true_and, e31, e41, e21, cond_false, isR_at hf, k1, k2, k3, k4, k5, k6, k7, Bool.false_and, Bool.or_self, or_true, true_or] using this
 by_cases h4 : (tokAt T s.at_).kind = 4
 ·have e34 : ((4 : Int) == 3) = false := rfl
  have e24 : ((4 : Int) == 2) = false := rfl
  have e4a : ¬ ((4 : Int) = 2) := by decide
  have e4b : ¬ ((4 : Int) = 1) := by decide
  have e4c : ((4 : Int) = 3 ∨ (4 : Int) = 4) := .inr rfl
  cases ht : (tokAt T s.at_).text == [40] with
  | true =>
   have := single_both hT ih hf hs n n' (by omega) (by omega)
   simpa only [firstF, firstR, hf, h4, e4a, e4b, e4c, e34, e24, ht, ne_eq, not_true, if_false, if_true, beq_self_eq_true, Bool.and_false, Bool.true_and, cond_false, cond_true, isR_at hf, k1, k2, k3, k4, k5, k6, k7, Bool.false_and, Bool.or_self, or_true, true_or] using this
  | false =>
   have := hbad h1
   simpa only [firstF, firstR, hf, h4, e4a, e4b, e4c, e34, e24, ht, ne_eq, not_true, if_false, if_true, beq_self_eq_true, Bool.and_false, Bool.true_and, cond_false, cond_true, isR_at hf, k1, k2, k3, k4, k5, k6, k7, Bool.false_and, Bool.or_self, or_true, true_or] using this
 by_cases h3 : (tokAt T s.at_).kind = 3
 ·have hg := left_go hT hf (by rw [h3]; decide)
  have hfg : (goS s).fe = 0 := hf
  have e43 : ((3 : Int) == 4) = false := rfl
  have e23 : ((3 : Int) == 2) = false := rfl
  have e3a : ¬ ((3 : Int) = 2) := by decide
  have e3b : ¬ ((3 : Int) = 1) := by decide
  have e3c : ((3 : Int) = 3 ∨ (3 : Int) = 4) := .inl rfl
  simp only [firstF, firstR, hf, h3, e3a, e3b, e3c, e43, e23, ne_eq, not_true, if_false, if_true, beq_self_eq_true, Bool.and_false, Bool.true_and, cond_false, cond_true, isR_at hf, k1, k2, k3, k4, k5, k6, k7, Bool.false_and]
  cases t1 : (tokAt T s.at_).text == [116, 114, 117, 101] || (tokAt T s.at_).text == [102, 97, 108, 115, 101] with
  | true => simp only [cond_true]; exact Both.pure (.inl ⟨hf, rfl⟩) (by simp only [truthS]; omega)
  | false =>
   cases t2 : (tokAt T s.at_).text == [110, 117, 108, 108] with
   | true =>
    simp only [cond_true, cond_false]
    have ho := of_same T (goS s)
    refine Both.pure ?_ (by have := left_of hT (goS s); simp only [nullS]; omega)
    refine Same.of ho.st fun h => ?_
    rw [(ho.resolve_right (by rintro ⟨h', _⟩; exact h' h)).2]
   | false =>
    cases t3 : (tokAt T s.at_).text == [110, 101, 119] with
    | true => simp only [cond_true, cond_false]; exact fresh_both hT ih hf h3 hs n n' (by omega) (by omega)
    | false =>
     cases t4 : (tokAt T s.at_).text == [108, 101, 110] with
     | true =>
      simp only [cond_true, cond_false]
      have := single_both hT (k := k - 1) (fun j hj => ih j (by omega)) (s := goS s) hfg (by omega) n n' (by omega) (by omega)
      exact (this.map fun e => Ex.mk { kind := 10, pos := (tokAt T s.at_).pos } [e]).le (by omega)
     | false =>
      cases t5 : (tokAt T s.at_).text == [114, 101, 97, 100] with
      | true =>
       simp only [cond_true, cond_false]
       exact Both.pure (read_same hf) (by have := left_read hT s; omega)
      | false => simp only [cond_false]; exact hbad h1
 ·have b3 : ((tokAt T s.at_).kind == 3) = false := by simpa using h3
  have b4 : ((tokAt T s.at_).kind == 4) = false := by simpa using h4
  have := hbad h1
  simpa only [firstF, firstR, hf, h1, h2, h3, h4, b2, b3, b4, ne_eq, not_true, if_false, if_true, beq_self_eq_true, Bool.and_false, Bool.true_and, cond_false, cond_true, isR_at hf, k1, k2, k3, k4, k5, k6, k7, Bool.false_and, Bool.or_self, or_self] using this
theorem unary_both {T : List Tok} (hT : T.length ≤ 40000000) {k : Nat} (ih : ∀ j, j < k → RowB T j) {s : St} (hf : s.fe = 0) (hs : left T s ≤ k) (n n' : Nat) (hn : 30 * k + 14 ≤ n) (hn' : 30 * k + 14 ≤ n') :
  Both T s (unaryF T n s) (unaryR T n' s) := by
 obtain ⟨n, rfl⟩ : ∃ m, n = m + 1 := ⟨n - 1, by omega⟩
 obtain ⟨n', rfl⟩ : ∃ m, n' = m + 1 := ⟨n' - 1, by omega⟩
 have e1 : isR T s [45] = isB T s 4 [45] := rfl
 have e2 : isR T s [33] = isB T s 4 [33] := rfl
 have hsign : ∀ (x : Bs) (kd : Int), kw x = 4 → isB T s 4 x = true → Both T s (signF T n x kd s) (signR T n' kd s) := by
  intro x kd hx hi
  obtain ⟨n, rfl⟩ : ∃ m, n = m + 1 := ⟨n - 1, by omega⟩
  obtain ⟨n', rfl⟩ : ∃ m, n' = m + 1 := ⟨n' - 1, by omega⟩
  have ht : (tokAt T s.at_).text = x := (isB_kind hi).2.2
  simp only [signF, signR, ht]
  rcases row_open hT ih hf hs hx 5 (n + 1) n' (by omega) (by omega) (by omega) with ⟨h1, h2, p, q, h3, h4, h5, h6⟩ | ⟨h1, h2, h3, h4, h5⟩
  ·have h3' : unaryF T n (opensS T x s).2 = some p := by rw [rowF] at h3; exact h3
   simp only [h1, h3', h4, Option.bind_some, cond_true]
   refine Both.pure ?_ (by rw [left_out]; omega)
   refine Same.of h5.st.out fun h => ?_
   rw [(h5.resolve_right (by rintro ⟨h', _⟩; exact h' h)).2]
  ·simp only [h1, h5, Option.bind_some, cond_false]
   exact Both.pure (.inr ⟨h2, h3, h4⟩) (by simp only [left_failed h2]; omega)
 simp only [unaryF, unaryR, e1, e2]
 cases i1 : isB T s 4 [45] with
 | true => simp only [cond_true]; exact hsign [45] 12 rfl i1
 | false =>
  cases i2 : isB T s 4 [33] with
  | true => simp only [cond_true, cond_false]; exact hsign [33] 13 rfl i2
  | false =>
   simp only [cond_false]
   obtain ⟨n, rfl⟩ : ∃ m, n = m + 2 := ⟨n - 2, by omega⟩
   obtain ⟨n', rfl⟩ : ∃ m, n' = m + 1 := ⟨n' - 1, by omega⟩
   obtain ⟨p, q, h3, h4, h5, h6⟩ := first_both hT ih hf hs n n' (by omega) (by omega)
   have := (chain_both hT ih k (n + 1) (n' + 1) p.2 q.2 p.1 q.1 (by omega) (by omega) (by omega) (by omega) h5.st (fun h => by
    rw [(h5.resolve_right (by rintro ⟨h', _⟩; exact h' h)).2])).le h6
   rw [chainF]
   simpa only [h3, h4, Option.bind_some] using this
theorem row_both {T : List Tok} (hT : T.length ≤ 40000000) {k : Nat} (ih : ∀ j, j < k → RowB T j) {s : St} (hf : s.fe = 0) (hs : left T s ≤ k) : ∀ (j lev n n' : Nat), lev + j = 5 → 30 * k + 20 ≤ n + lev → 30 * k + 20 ≤ n' + lev → Both T s (rowF T n lev s) (exprR T n' lev s)
 | 0, lev, n, n', hl, hn, hn' => by
  obtain rfl : lev = 5 := by omega
  obtain ⟨n, rfl⟩ : ∃ m, n = m + 1 := ⟨n - 1, by omega⟩
  obtain ⟨n', rfl⟩ : ∃ m, n' = m + 1 := ⟨n' - 1, by omega⟩
  simp only [rowF, exprR, if_true]
  exact unary_both hT ih hf hs n n' (by omega) (by omega)
 | j + 1, lev, n, n', hl, hn, hn' => by
  have h5 : ¬ lev = 5 := by omega
  obtain ⟨n, rfl⟩ : ∃ m, n = m + 1 := ⟨n - 1, by omega⟩
  obtain ⟨n', rfl⟩ : ∃ m, n' = m + 1 := ⟨n' - 1, by omega⟩
  obtain ⟨p, q, g1, g2, g3, g4⟩ := row_both hT ih hf hs j (lev + 1) n n' (by omega) (by omega) (by omega)
  have := (rowL_both hT ih (lev := lev) (by omega) k n n' p.2 q.2 p.1 q.1 (by omega) (by omega) (by omega) (by omega) g3.st (fun h => by
   rw [(g3.resolve_right (by rintro ⟨h', _⟩; exact h' h)).2])).le g4
  simpa only [rowF, exprR, h5, if_false, g1, g2, Option.bind_some] using this
theorem rows_both {T : List Tok} (hT : T.length ≤ 40000000) : ∀ k, RowB T k := by
 intro k
 induction k using Nat.strongRecOn with
 | _ k ih =>
  intro s hs lev n n' hl hn hn'
  by_cases hf : s.fe = 0
  ·exact row_both hT ih hf hs (5 - lev) lev n n' (by omega) hn hn'
  ·exact row_failed hf lev n n' hl (by omega) (by omega)
end Go.Proofs.Ytnjoomfeddamcaa

namespace Go.Proofs.Ytnjoomfeddamcaa
open Go.Ev
def Ea.cells (a : Ea) (kv : AV) : List AV := [.int .i64 a.kind, .int .i64 a.n, .str a.name, .str a.ofn, .int .i64 a.ofd, kv, .int .i64 a.pos, .int .i64 a.tb, .int .i64 a.tr, .int .i64 a.td, .int .i64 a.ref]
mutual
def ExV (H : AHeap) (ok : Nat → Prop) : Ex → AV → Prop
 | .mk a ks, v => ∃ kv, v = .agg (a.cells kv) ∧ ((kv = .nilSl ∧ ks.length = 0) ∨ (∃ l i cap ro els, kv = .sl l i ks.length 11 cap ∧ ok l ∧ H.get l = some (.row ro 11 els) ∧ ElsV H ok ks (els.drop i)) ∨ ∃ l i cap, kv = .sl l i 0 11 cap ∧ ks.length = 0)
def ElsV (H : AHeap) (ok : Nat → Prop) : List Ex → List (List AV) → Prop
 | [], _ => True
 | e :: es, [] => False
 | e :: es, cs :: css => ExV H ok e (.agg cs) ∧ ElsV H ok es css
end
def KsV (H : AHeap) (ok : Nat → Prop) (ks : List Ex) (kv : AV) : Prop := (kv = .nilSl ∧ ks.length = 0) ∨ (∃ l i cap ro els, kv = .sl l i ks.length 11 cap ∧ ok l ∧ H.get l = some (.row ro 11 els) ∧ ElsV H ok ks (els.drop i)) ∨ ∃ l i cap, kv = .sl l i 0 11 cap ∧ ks.length = 0
theorem ExV_mk {H : AHeap} {ok : Nat → Prop} {a : Ea} {ks : List Ex} {v : AV} : ExV H ok (.mk a ks) v ↔ ∃ kv, v = .agg (a.cells kv) ∧ KsV H ok ks kv := by
 rw [ExV]; rfl
def Keep (H : AHeap) (ok : Nat → Prop) (H' : AHeap) (ok' : Nat → Prop) : Prop := ∀ l ro els, ok l → H.get l = some (.row ro 11 els) → ok' l ∧ H'.get l = some (.row ro 11 els)
mutual
theorem ExV.keep {H H' : AHeap} {ok ok' : Nat → Prop} (p : Keep H ok H' ok') : ∀ (e : Ex) (v : AV), ExV H ok e v → ExV H' ok' e v
 | .mk a ks, v, h => by
  rw [ExV] at h ⊢
  obtain ⟨kv, h1, h2⟩ := h
  refine ⟨kv, h1, ?_⟩
  rcases h2 with h2 | ⟨l, i, cap, ro, els, e1, e2, e3, e4⟩ | h2
  ·exact .inl h2
  ·obtain ⟨q1, q2⟩ := p l ro els e2 e3
   exact .inr (.inl ⟨l, i, cap, ro, els, e1, q1, q2, ElsV.keep p ks _ e4⟩)
  ·exact .inr (.inr h2)
theorem ElsV.keep {H H' : AHeap} {ok ok' : Nat → Prop} (p : Keep H ok H' ok') : ∀ (es : List Ex) (cs : List (List AV)), ElsV H ok es cs → ElsV H' ok' es cs
 | [], _, _ => by rw [ElsV]; trivial
 | e :: es, [], h => by rw [ElsV] at h; exact h.elim
 | e :: es, cs :: css, h => by
  rw [ElsV] at h ⊢
  exact ⟨ExV.keep p e _ h.1, ElsV.keep p es css h.2⟩
end
theorem KsV.keep {H H' : AHeap} {ok ok' : Nat → Prop} (p : Keep H ok H' ok') {ks : List Ex} {v : AV} (h : KsV H ok ks v) : KsV H' ok' ks v := by
 rcases h with h2 | ⟨l, i, cap, ro, els, e1, e2, e3, e4⟩ | h2
 ·exact .inl h2
 ·obtain ⟨q1, q2⟩ := p l ro els e2 e3
  exact .inr (.inl ⟨l, i, cap, ro, els, e1, q1, q2, ElsV.keep p ks _ e4⟩)
 ·exact .inr (.inr h2)
theorem Keep.mut {r : Nat} {H H' : AHeap} {ok ok' : Nat → Prop} (m : Mt r H H') (hr : ¬ ok r) (hl : ∀ l, ok l → ok' l) : Keep H ok H' ok' := fun l ro els h e => ⟨hl l h, m.get e (by rintro rfl; exact hr h)⟩
theorem Keep.pur {H H' : AHeap} {ok ok' : Nat → Prop} (m : Pur H H') (hl : ∀ l, ok l → ok' l) : Keep H ok H' ok' := fun l ro els h e => ⟨hl l h, m.get e⟩
def Ge (n : Nat) : Nat → Prop := fun l => n ≤ l
theorem ExV.agg {H : AHeap} {ok : Nat → Prop} {e : Ex} {v : AV} (h : ExV H ok e v) : ∃ k n nm o d kv p t1 t2 t3 rf, v = .agg [.int .i64 k, .int .i64 n, .str nm, .str o, .int .i64 d, kv, .int .i64 p, .int .i64 t1, .int .i64 t2, .int .i64 t3, .int .i64 rf] ∧ kv.one = true := by
 cases e with | mk a ks =>
 rw [ExV_mk] at h
 obtain ⟨kv, h1, h2⟩ := h
 refine ⟨_, _, _, _, _, kv, _, _, _, _, _, h1, ?_⟩
 rcases h2 with ⟨rfl, _⟩ | ⟨l, i, cap, ro, els, rfl, _⟩ | ⟨l, i, cap, rfl, _⟩ <;> rfl
theorem ExV.leaf (H : AHeap) (ok : Nat → Prop) (a : Ea) : ExV H ok (.mk a []) (.agg (a.cells .nilSl)) := by
 rw [ExV_mk]; exact ⟨_, rfl, .inl ⟨rfl, rfl⟩⟩
theorem kind_loop {r : Nat} {T : List Tok} {tv lv : AV} {s : St} {H0 : AHeap} (hx : Rx H0 r T tv lv s) {l i : Nat} {cap : Option Nat} {ro : Bool} {els : List (List AV)} (hg : H0.get l = some (.row ro 2 els)) (N : Nat) (all : List (Bs × Int)) (hA : all.length ≤ 1000)
  (hel : ∀ (j : Nat) (p : Bs × Int), all[j]? = some p → els[i + j]? = some [.str p.1, .int .i64 p.2]) :
  ∀ (rest pre : List (Bs × Int)), all = pre ++ rest → ∀ (n : Nat) (H : AHeap), rest.length < n → Pur H0 H →
   W (s84_l1 (evw P) N n (.ptr r 0 0) (.sl l i all.length 2 cap) (.int .i64 all.length) (.int .i64 pre.length) H) fun v H' => v = .int .i64 (kindL T s rest) ∧ Pur H0 H'
 | [], pre, hp, 0, H, hn, p => by omega
 | [], pre, hp, n + 1, H, hn, p => by
  have h1 : ¬ ((pre.length : Int) < (all.length : Int)) := by rw [hp]; simp
  simp -implicitDefEqProofs (disch := first | assumption | omega | (simp only [nxB]; omega) | (simp only [oneB])) only [s84_l1, s84_j0, s84_b1, s84, xlen, AV.cells, splice, aload, astore, Nat.reduceAdd, Nat.reduceLeDiff, reduceIte, allB, h1, decide_false]
  exact W_some.2 ⟨rfl, p⟩
 | q :: rest, pre, hp, 0, H, hn, p => by omega
 | (x, k) :: rest, pre, hp, n + 1, H, hn, p => by
  have h1 : (pre.length : Int) < (all.length : Int) := by rw [hp]; simp; omega
  have h0 : (0 : Int) ≤ (pre.length : Int) := by omega
  have he := hel pre.length (x, k) (by rw [hp]; simp)
  have hg' := p.get hg
  have hl := AHeap.get_lt hg'
  have e1 : ((pre.length : Int)).toNat = pre.length := by omega
  simp -implicitDefEqProofs (disch := first | assumption | omega | (simp only [nxB]; omega) | (simp only [oneB])) only [s84_l1, s84_j0, s84_b1, s84, xlen, AV.cells, splice, aload, astore, Nat.reduceAdd, Nat.reduceLeDiff, reduceIte, allB, h1, decide_true, hg', e1, he]
  refine W_call (is_spec (hx.rd.pur (p.then_push _)) (hx.tk.pur (p.then_push _)) 4 x) ?_
  rintro _ H2 ⟨rfl, p2⟩
  refine ⟨p2.1, ?_⟩
  have hb : H2.get H.next = some (.row false 2 [[.str x, .int .i64 k]]) := p2.get (AHeap.get_push_same _ _)
  have p3 := (p.then_push _).trans p2
  cases hi : isB T s 4 x with
  | true =>
   simp -implicitDefEqProofs (disch := first | assumption | omega | (simp only [nxB]; omega) | (simp only [oneB])) only [s84_j0, s84_b1, s84, xlen, AV.cells, splice, aload, astore, Nat.reduceAdd, Nat.reduceLeDiff, reduceIte, allB, hb]
   exact W_some.2 ⟨by simp [kindL, hi], p3⟩
  | false =>
   have hw : IntKind.i64.wrap ((pre.length : Int) + 1) = ((pre ++ [(x, k)]).length : Int) := by
    have hlt : pre.length < all.length := by omega
    rw [wrap_i64 (by omega) (by omega)]; simp
   simp -implicitDefEqProofs (disch := first | assumption | omega | (simp only [nxB]; omega) | (simp only [oneB])) only [s84_j0, s84_b1, s84, xlen, AV.cells, splice, aload, astore, Nat.reduceAdd, Nat.reduceLeDiff, reduceIte, allB, hw]
   refine (kind_loop hx hg N all hA hel rest (pre ++ [(x, k)]) (by simp [hp]) n H2 (by simp at hn; omega) p3).mono ?_
   rintro v H' ⟨rfl, q⟩
   exact ⟨by simp [kindL, hi], q⟩
theorem kind_spec {H : AHeap} {r : Nat} {T : List Tok} {tv lv : AV} {s : St} (hx : Rx H r T tv lv s) (hlv : lv ≠ .nilSl) (lev : Nat) (hlev : lev < 5) : W (evw P 84 [.ptr r 0 0, .int .i64 lev] H) fun v H' => v = .int .i64 (kindS T lev s) ∧ Pur H H' := by
 refine W_of (fun _ => run84 10) ?_
 have hr := hx.rd
 unfold Rd at hr
 obtain ⟨l, i, cap, ro, els, rfl, h2, h3⟩ := hx.lv.resolve_left hlv
 obtain ⟨all, hall⟩ : ∃ all, lvls[lev]? = some all := ⟨lvls[lev]'(by simpa [lvls] using hlev), by simp [lvls]⟩
 have hrow : lvRows[lev]? = some (all.map fun p => [AV.str p.1, .int .i64 p.2]) := by
  have : lvRows = lvls.map fun row => row.map fun p => [AV.str p.1, .int .i64 p.2] := rfl
  rw [this, List.getElem?_map, hall]; rfl
 obtain ⟨l', i', cap', ro', els', e1, e2, e3⟩ := h3 lev _ hrow
 have hle : all.length ≤ 1000 := by
  have : ∀ a ∈ lvls, a.length ≤ 1000 := by decide
  exact this all (List.mem_of_getElem? hall)
 have h0 : (0 : Int) ≤ (lev : Int) := by omega
 have h5 : (lev : Int) < ((5 : Nat) : Int) := by omega
 have ht : ((lev : Int)).toNat = lev := by omega
 simp only [List.length_map] at e1
 simp -implicitDefEqProofs (disch := first | assumption | omega | (simp only [nxB]; omega) | (simp only [oneB])) only [s84_j0, s84_b1, s84, xlen, AV.cells, splice, aload, astore, Nat.reduceAdd, Nat.reduceLeDiff, reduceIte, allB, hr, h2, ht, e1]
 refine (kind_loop hx e2 10 all hle (fun j p hj => e3 j _ (by rw [List.getElem?_map, hj]; rfl)) all [] rfl 10 H (by
  have : ∀ a ∈ lvls, a.length < 10 := by decide
  exact this all (List.mem_of_getElem? hall)) (.refl _)).mono ?_
 rintro v H' ⟨rfl, q⟩
 exact ⟨by simp [kindS, hall], q⟩
theorem of_wants {r : Nat} {T : List Tok} {tv lv : AV} {H0 : AHeap} {s0 : St} (hx0 : Rx H0 r T tv lv s0) {b t : Nat} (hb : H0.next ≤ b) (ht : H0.next ≤ t) {x : Bs} {k n q : Int} (d : Nat) (hd : d ≤ 1000) (N : Nat) :
  ∀ (j i : Nat), i + j = d → ∀ (m : Nat) (H : AHeap) (s : St), j < m → Mt r H0 H → Rd H r tv lv s → H.get b = some (.row false 2 [[.str [], .int .i64 0]]) → H.get t = some (.row false 4 [[.int .i64 k, .str x, .int .i64 n, .int .i64 q]]) →
   W (s35_l2 (evw P) N m (.ptr r 0 0) (.ptr b 0 0) (.int .i64 d) (.ptr t 0 0) (.int .i64 d) (.int .i64 i) H) fun v H' => v = .agg [.str x, .int .i64 d] ∧ Mt r H0 H' ∧ Rx H' r T tv lv (wantN T [93] j s)
 | 0, i, hi, 0, H, s, hm, mt, hd', hgb, hgt => by omega
 | 0, i, hi, m + 1, H, s, hm, mt, hd', hgb, hgt => by
  have h1 : ¬ ((i : Int) < (d : Int)) := by omega
  have hlb := AHeap.get_lt hgb
  simp -implicitDefEqProofs (disch := first | assumption | omega | (simp only [nxB]; omega) | (simp only [oneB])) only [s35_l2, s35_j1, s35_b2, s35_22, s35_23, s35_24, s35_25, s35_26, s35_27, s35_28, s35_29, s35_30, s35_31, s35_32, s35_33, s35_34, s35_35, s35_j0, s35_51, s35_52, s35_b3, s35_53, s35, xlen, AV.cells, splice, aload, astore, Nat.reduceAdd, Nat.reduceLeDiff, reduceIte, allB, h1, decide_false, hgb, hgt]
  exact W_some.2 ⟨rfl, mt.then_set (.inr hb) _, hx0.mut (mt.then_set (.inr hb) _) (by
   have := hx0.rd.lt
   unfold Rd at hd' ⊢; rw [AHeap.get_set_other (by omega)]; exact hd')⟩
 | j + 1, i, hi, 0, H, s, hm, mt, hd', hgb, hgt => by omega
 | j + 1, i, hi, m + 1, H, s, hm, mt, hd', hgb, hgt => by
  have h1 : ((i : Int) < (d : Int)) := by omega
  have hlr := hx0.rd.lt
  simp -implicitDefEqProofs (disch := first | assumption | omega | (simp only [nxB]; omega) | (simp only [oneB])) only [s35_l2, s35_j1, s35_b2, s35_22, s35_23, s35_24, s35_25, s35_26, s35_27, s35_28, s35_29, s35_30, s35_31, s35_32, s35_33, s35_34, s35_35, s35_j0, s35_51, s35_52, s35_b3, s35_53, s35, xlen, AV.cells, splice, aload, astore, Nat.reduceAdd, Nat.reduceLeDiff, reduceIte, allB, h1, decide_true]
  refine W_call (wants_spec (hx0.mut mt hd') [93]) ?_
  rintro _ H2 ⟨rfl, m2, hx2⟩
  refine ⟨m2.1, ?_⟩
  have hw : IntKind.i64.wrap ((i : Int) + 1) = ((i + 1 : Nat) : Int) := by rw [wrap_i64 (by omega) (by omega)]; simp
  simp -implicitDefEqProofs (disch := first | assumption | omega | (simp only [nxB]; omega) | (simp only [oneB])) only [s35_j1, s35_b2, s35_22, s35_23, s35_24, s35_25, s35_26, s35_27, s35_28, s35_29, s35_30, s35_31, s35_32, s35_33, s35_34, s35_35, s35_j0, s35_51, s35_52, s35_b3, s35_53, s35, xlen, AV.cells, splice, aload, astore, Nat.reduceAdd, Nat.reduceLeDiff, reduceIte, allB, hw]
  refine (of_wants hx0 hb ht d hd N j (i + 1) (by omega) m H2 _ (by omega) (mt.trans m2) hx2.rd (m2.get hgb (by omega)) (m2.get hgt (by omega))).mono ?_
  rintro v H' ⟨rfl, q1, q2⟩
  exact ⟨rfl, q1, q2⟩
theorem of_mid {r : Nat} {T : List Tok} {tv lv : AV} {H0 : AHeap} {s0 : St} (hx0 : Rx H0 r T tv lv s0) {b t : Nat} (hb : H0.next ≤ b) (ht : H0.next ≤ t) (hbt : b ≠ t) (d : Nat) (hd : d ≤ 1000) (N : Nat) (hN : d < N) {H : AHeap} {s : St} (mt : Mt r H0 H) (hrd : Rd H r tv lv s) (hgb : H.get b = some (.row false 2 [[.str [], .int .i64 0]]))
  (hgt : H.get t = some (.row false 4 [[.int .i64 (tokAt T s.at_).kind, .str (tokAt T s.at_).text, .int .i64 (tokAt T s.at_).n, .int .i64 (tokAt T s.at_).pos]])) {c : Bool}
  (hc : ((tokAt T s.at_).kind != 1 && (!isB T s 3 [105, 110, 116] && !isB T s 3 [98, 111, 111, 108])) = c) :
  W (s35_22 (evw P) N H (.ptr r 0 0) (.ptr b 0 0) (.int .i64 d) (.ptr t 0 0) (.bool c)) fun v H' => v = .agg [.str (ofE T d s).1.1, .int .i64 (ofE T d s).1.2] ∧ Mt r H0 H' ∧ Rx H' r T tv lv (ofE T d s).2 := by
 have hlr := hx0.rd.lt
 have hlb := AHeap.get_lt hgb
 have hlt := AHeap.get_lt hgt
 have hle := mt.1
 have hx := hx0.mut mt hrd
 cases c with
 | true =>
  rw [show ofE T d s = (([], 0), failS T 2 s) by simp only [ofE, hc, cond_true]]
  simp -implicitDefEqProofs (disch := first | assumption | omega | (simp only [nxB]; omega) | (simp only [oneB])) only [s35_j1, s35_b2, s35_22, s35_23, s35_24, s35_25, s35_26, s35_27, s35_28, s35_29, s35_30, s35_31, s35_32, s35_33, s35_34, s35_35, s35_j0, s35_51, s35_52, s35_b3, s35_53, s35, xlen, AV.cells, splice, aload, astore, Nat.reduceAdd, Nat.reduceLeDiff, reduceIte, allB]
  refine W_call (fail_spec hx 2) ?_
  rintro _ H1 ⟨rfl, m1, hx1⟩
  refine ⟨m1.1, ?_⟩
  have hgb1 := m1.get hgb (by omega)
  have hlb1 := AHeap.get_lt hgb1
  simp -implicitDefEqProofs (disch := first | assumption | omega | (simp only [nxB]; omega) | (simp only [oneB])) only [s35_j1, s35_b2, s35_22, s35_23, s35_24, s35_25, s35_26, s35_27, s35_28, s35_29, s35_30, s35_31, s35_32, s35_33, s35_34, s35_35, s35_j0, s35_51, s35_52, s35_b3, s35_53, s35, xlen, AV.cells, splice, aload, astore, Nat.reduceAdd, Nat.reduceLeDiff, reduceIte, allB, hgb1]
  have m2 := (mt.trans m1).then_set (.inr hb) (.row false 2 [[.str [], .int .i64 0]])
  refine W_some.2 ⟨rfl, m2, hx0.mut m2 ?_⟩
  have := hx1.rd
  unfold Rd at this ⊢
  rw [AHeap.get_set_other (by omega)]; exact this
 | false =>
  rw [show ofE T d s = (((tokAt T s.at_).text, (d : Int)), wantN T [93] d (goS s)) by simp [ofE, hc]]
  have ho1 := hx.tk.one
  have ho2 := hx.lv.one
  have hrd' := hrd
  unfold Rd at hrd'
  simp -implicitDefEqProofs (disch := first | assumption | omega | (simp only [nxB]; omega) | (simp only [oneB])) only [s35_j1, s35_b2, s35_22, s35_23, s35_24, s35_25, s35_26, s35_27, s35_28, s35_29, s35_30, s35_31, s35_32, s35_33, s35_34, s35_35, s35_j0, s35_51, s35_52, s35_b3, s35_53, s35, xlen, AV.cells, splice, aload, astore, Nat.reduceAdd, Nat.reduceLeDiff, reduceIte, allB, hrd', ho1, ho2]
  obtain ⟨m1, hd1⟩ := fail_set hrd (goS s)
  exact of_wants hx0 hb ht d hd N d 0 (by omega) N _ _ hN (mt.trans m1) hd1 (m1.get hgb (by omega)) (m1.get hgt (by omega))
theorem of_end {r : Nat} {T : List Tok} {tv lv : AV} {H0 : AHeap} {s0 : St} (hx0 : Rx H0 r T tv lv s0) {b : Nat} (hb : H0.next ≤ b) (d : Nat) (hd : d ≤ 1000) (N : Nat) (hN : d < N) {H : AHeap} {s : St} (mt : Mt r H0 H) (hrd : Rd H r tv lv s) (hgb : H.get b = some (.row false 2 [[.str [], .int .i64 0]])) :
  W (s35_j0 (evw P) N (.ptr r 0 0) (.ptr b 0 0) (.int .i64 d) H) fun v H' => v = .agg [.str (ofE T d s).1.1, .int .i64 (ofE T d s).1.2] ∧ Mt r H0 H' ∧ Rx H' r T tv lv (ofE T d s).2 := by
 have hlr := hx0.rd.lt
 have hlb := AHeap.get_lt hgb
 have hle := mt.1
 rw [s35_j0]
 refine W_call (tok_spec hrd (hx0.mut mt hrd).tk) ?_
 rintro _ H1 ⟨rfl, p1⟩
 refine ⟨p1.1, ?_⟩
 have h1n := p1.1
 have p2 := p1.then_push (.row false 4 [[.int .i64 (tokAt T s.at_).kind, .str (tokAt T s.at_).text, .int .i64 (tokAt T s.at_).n, .int .i64 (tokAt T s.at_).pos]])
 have hgt := AHeap.get_push_same H1 (.row false 4 [[.int .i64 (tokAt T s.at_).kind, .str (tokAt T s.at_).text, .int .i64 (tokAt T s.at_).n, .int .i64 (tokAt T s.at_).pos]])
 have hx := hx0.mut mt hrd
 by_cases hk : (tokAt T s.at_).kind = 1
 ·have hk' : ((tokAt T s.at_).kind != 1) = false := by simpa using hk
  simp -implicitDefEqProofs (disch := first | assumption | omega | (simp only [nxB]; omega) | (simp only [oneB])) only [Tok.v, xlen, AV.cells, splice, aload, astore, Nat.reduceAdd, Nat.reduceLeDiff, reduceIte, allB, hk', s35_23, s35_24, s35_25, s35_26, s35_27, s35_28, s35_29, s35_30, s35_31, s35_32, s35_33, s35_34, s35_35]
  exact of_mid hx0 hb (by omega) (by omega) d hd N hN (mt.trans (p2.mut _)) (hrd.pur p2) (p2.get hgb) hgt (by simp [hk])
 ·have hk' : ((tokAt T s.at_).kind != 1) = true := by simpa using hk
  simp -implicitDefEqProofs (disch := first | assumption | omega | (simp only [nxB]; omega) | (simp only [oneB])) only [Tok.v, xlen, AV.cells, splice, aload, astore, Nat.reduceAdd, Nat.reduceLeDiff, reduceIte, allB, hk', s35_23, s35_24, s35_25, s35_26, s35_27, s35_28, s35_29, s35_30, s35_31, s35_32, s35_33, s35_34, s35_35]
  refine W_eff (is_spec (hrd.pur p2) (hx.tk.pur p2) 3 _) ?_
  rintro _ H2 ⟨rfl, p3⟩
  refine ⟨p3.1, ?_⟩
  have p4 := p2.trans p3
  have hn3 := p3.1
  cases hi : isB T s 3 [105, 110, 116] with
  | true =>
   simp -implicitDefEqProofs (disch := first | assumption | omega | (simp only [nxB]; omega) | (simp only [oneB])) only [xlen, AV.cells, splice, aload, astore, Nat.reduceAdd, Nat.reduceLeDiff, reduceIte, allB, s35_23, s35_24, s35_25, s35_26, s35_27, s35_28, s35_29, s35_30, s35_31, s35_32, s35_33, s35_34, s35_35, Bool.not_true]
   exact of_mid hx0 hb (by omega) (by omega) d hd N hN (mt.trans (p4.mut _)) (hrd.pur p4) (p4.get hgb) (p3.get hgt) (by simp [hi])
  | false =>
   simp -implicitDefEqProofs (disch := first | assumption | omega | (simp only [nxB]; omega) | (simp only [oneB])) only [xlen, AV.cells, splice, aload, astore, Nat.reduceAdd, Nat.reduceLeDiff, reduceIte, allB, s35_23, s35_24, s35_25, s35_26, s35_27, s35_28, s35_29, s35_30, s35_31, s35_32, s35_33, s35_34, s35_35, Bool.not_false]
   refine W_eff (is_spec (hrd.pur p4) (hx.tk.pur p4) 3 _) ?_
   rintro _ H3 ⟨rfl, p5⟩
   refine ⟨p5.1, ?_⟩
   have p6 := p4.trans p5
   simp -implicitDefEqProofs (disch := first | assumption | omega | (simp only [nxB]; omega) | (simp only [oneB])) only [xlen, AV.cells, splice, aload, astore, Nat.reduceAdd, Nat.reduceLeDiff, reduceIte, allB, s35_23, s35_24, s35_25, s35_26, s35_27, s35_28, s35_29, s35_30, s35_31, s35_32, s35_33, s35_34, s35_35]
   exact of_mid hx0 hb (by omega) (by omega) d hd N hN (mt.trans (p6.mut _)) (hrd.pur p6) (p6.get hgb) ((p3.trans p5).get hgt) (by simp [hi, hk])
theorem of_loop {r : Nat} {T : List Tok} {tv lv : AV} {H0 : AHeap} {s0 : St} (hx0 : Rx H0 r T tv lv s0) {b : Nat} (hb : H0.next ≤ b) (N : Nat) (hN : 3 < N) :
  ∀ (n d : Nat), n + d = 3 → ∀ (m : Nat) (H : AHeap) (s : St), n < m → Mt r H0 H → Rd H r tv lv s → H.get b = some (.row false 2 [[.str [], .int .i64 0]]) →
   W (s35_l3 (evw P) N m (.ptr r 0 0) (.ptr b 0 0) (.int .i64 d) H) fun v H' => ∃ p : (Bs × Int) × St, p = (match ofL T n d s with | .inr s' => (([], 0), s') | .inl (d, s') => ofE T d s') ∧ v = .agg [.str p.1.1, .int .i64 p.1.2] ∧ Mt r H0 H' ∧ Rx H' r T tv lv p.2 := by
 intro n
 induction n with
 | zero =>
  intro d hd m H s hm mt hrd hgb
  obtain ⟨m, rfl⟩ : ∃ k, m = k + 1 := ⟨m - 1, by omega⟩
  have hd3 : d = 3 := by omega
  subst hd3
  have hx := hx0.mut mt hrd
  have hlr := hx0.rd.lt
  have hlb := AHeap.get_lt hgb
  simp only [s35_l3]
  rw [s35_b3]
  refine W_call (is_spec hrd hx.tk 4 [91]) ?_
  rintro _ H1 ⟨rfl, p1⟩
  refine ⟨p1.1, ?_⟩
  have hgb1 := p1.get hgb
  cases hi : isB T s 4 [91] with
  | true =>
   simp -implicitDefEqProofs (disch := first | assumption | omega | (simp only [nxB]; omega) | (simp only [oneB])) only [s35_j1, s35_b2, s35_22, s35_23, s35_24, s35_25, s35_26, s35_27, s35_28, s35_29, s35_30, s35_31, s35_32, s35_33, s35_34, s35_35, s35_j0, s35_51, s35_52, s35_b3, s35_53, s35, xlen, AV.cells, splice, aload, astore, Nat.reduceAdd, Nat.reduceLeDiff, reduceIte, allB, beq_self_eq_true, Int.cast_ofNat_Int]
   refine W_call (fail_spec (hx.pur p1) 4) ?_
   rintro _ H2 ⟨rfl, m2, hx2⟩
   refine ⟨m2.1, ?_⟩
   have hgb2 := m2.get hgb1 (by omega)
   have hlb2 := AHeap.get_lt hgb2
   simp -implicitDefEqProofs (disch := first | assumption | omega | (simp only [nxB]; omega) | (simp only [oneB])) only [s35_j1, s35_b2, s35_22, s35_23, s35_24, s35_25, s35_26, s35_27, s35_28, s35_29, s35_30, s35_31, s35_32, s35_33, s35_34, s35_35, s35_j0, s35_51, s35_52, s35_b3, s35_53, s35, xlen, AV.cells, splice, aload, astore, Nat.reduceAdd, Nat.reduceLeDiff, reduceIte, allB, hgb2]
   have m3 := ((mt.trans (p1.mut _)).trans m2).then_set (.inr hb) (.row false 2 [[.str [], .int .i64 0]])
   refine W_some.2 ⟨(([], 0), failS T 4 s), by simp [ofL, hi], rfl, m3, hx0.mut m3 ?_⟩
   have := hx2.rd
   unfold Rd at this ⊢
   rw [AHeap.get_set_other (by omega)]; exact this
  | false =>
   simp -implicitDefEqProofs (disch := first | assumption | omega | (simp only [nxB]; omega) | (simp only [oneB])) only [s35_52, s35_51, xlen, AV.cells, splice, aload, astore, Nat.reduceAdd, Nat.reduceLeDiff, reduceIte, allB]
   refine (of_end hx0 hb 3 (by omega) N hN (mt.trans (p1.mut _)) (hrd.pur p1) hgb1).mono ?_
   rintro v H' ⟨rfl, q1, q2⟩
   exact ⟨ofE T 3 s, by simp [ofL, hi], rfl, q1, q2⟩
 | succ n ih =>
  intro d hd m H s hm mt hrd hgb
  obtain ⟨m, rfl⟩ : ∃ k, m = k + 1 := ⟨m - 1, by omega⟩
  have hx := hx0.mut mt hrd
  have hlr := hx0.rd.lt
  have hlb := AHeap.get_lt hgb
  have ho1 := hx.tk.one
  have ho2 := hx.lv.one
  simp only [s35_l3]
  rw [s35_b3]
  refine W_call (is_spec hrd hx.tk 4 [91]) ?_
  rintro _ H1 ⟨rfl, p1⟩
  refine ⟨p1.1, ?_⟩
  have hgb1 := p1.get hgb
  have hrd1 := hrd.pur p1
  have hrd1' := hrd1
  unfold Rd at hrd1'
  cases hi : isB T s 4 [91] with
  | true =>
   have h3 : ((d : Int) == 3) = false := by simp; omega
   have hw : IntKind.i64.wrap ((d : Int) + 1) = ((d + 1 : Nat) : Int) := by rw [wrap_i64 (by omega) (by omega)]; simp
   obtain ⟨m2, hd2⟩ := fail_set hrd1 (goS s)
   simp -implicitDefEqProofs (disch := first | assumption | omega | (simp only [nxB]; omega) | (simp only [oneB])) only [s35_j1, s35_b2, s35_22, s35_23, s35_24, s35_25, s35_26, s35_27, s35_28, s35_29, s35_30, s35_31, s35_32, s35_33, s35_34, s35_35, s35_j0, s35_51, s35_52, s35_b3, s35_53, s35, xlen, AV.cells, splice, aload, astore, Nat.reduceAdd, Nat.reduceLeDiff, reduceIte, allB, h3, hw, hrd1', ho1, ho2]
   refine (ih (d + 1) (by omega) m _ _ (by omega) ((mt.trans (p1.mut _)).trans m2) hd2 (m2.get hgb1 (by omega))).mono ?_
   rintro v H' ⟨p, hp, rfl, q1, q2⟩
   exact ⟨p, by rw [hp]; simp [ofL, hi], rfl, q1, q2⟩
  | false =>
   simp -implicitDefEqProofs (disch := first | assumption | omega | (simp only [nxB]; omega) | (simp only [oneB])) only [s35_52, s35_51, xlen, AV.cells, splice, aload, astore, Nat.reduceAdd, Nat.reduceLeDiff, reduceIte, allB]
   refine (of_end hx0 hb d (by omega) N (by omega) (mt.trans (p1.mut _)) (hrd.pur p1) hgb1).mono ?_
   rintro v H' ⟨rfl, q1, q2⟩
   exact ⟨ofE T d s, by simp [ofL, hi], rfl, q1, q2⟩
theorem of_spec {H : AHeap} {r : Nat} {T : List Tok} {tv lv : AV} {s : St} (hx : Rx H r T tv lv s) : W (evw P 35 [.ptr r 0 0] H) fun v H' => v = .agg [.str (ofS T s).1.1, .int .i64 (ofS T s).1.2] ∧ Mt r H H' ∧ Rx H' r T tv lv (ofS T s).2 := by
 refine W_of (fun _ => run35 10) ?_
 simp only [s35, xalloc, s35_53]
 have p := Pur.push H (.row false 2 [[.str [], .int .i64 0]])
 refine (of_loop hx (Nat.le_refl _) 10 (by omega) 3 0 rfl 10 _ s (by omega) (p.mut _) (hx.rd.pur p) (AHeap.get_push_same _ _)).mono ?_
 rintro v H' ⟨q, hq, rfl, q1, q2⟩
 have : q = ofS T s := by rw [hq]; rfl
 subst this
 exact ⟨rfl, q1, q2⟩
end Go.Proofs.Ytnjoomfeddamcaa

namespace Go.Proofs.Ytnjoomfeddamcaa
open Go.Ev
theorem sl35_1 (l : Nat) (cs : List AV) (h : cs.length = 11) (ho : cs.all AV.one = true) : sliceOf P l 35 1 [(0, .agg cs)] = some (.sl l 0 1 11 (some 1), .row false 11 [cs]) := by
 have : sliceOf P l 35 1 [(0, .agg cs)] = (asetEls 11 (List.replicate 1 [.int .i64 0, .int .i64 0, .str [], .str [], .int .i64 0, .nilSl, .int .i64 0, .int .i64 0, .int .i64 0, .int .i64 0, .int .i64 0]) [(0, .agg cs)]).bind fun els => some (.sl l 0 1 11 (some 1), .row false 11 els) := by kernel_rfl
 rw [this]
 simp [asetEls, AV.cells, h, ho]
theorem sl35_2 (l : Nat) (cs ds : List AV) (h : cs.length = 11) (ho : cs.all AV.one = true) (h' : ds.length = 11) (ho' : ds.all AV.one = true) : sliceOf P l 35 2 [(0, .agg cs), (1, .agg ds)] = some (.sl l 0 2 11 (some 2), .row false 11 [cs, ds]) := by
 have : sliceOf P l 35 2 [(0, .agg cs), (1, .agg ds)] = (asetEls 11 (List.replicate 2 [.int .i64 0, .int .i64 0, .str [], .str [], .int .i64 0, .nilSl, .int .i64 0, .int .i64 0, .int .i64 0, .int .i64 0, .int .i64 0]) [(0, .agg cs), (1, .agg ds)]).bind fun els => some (.sl l 0 2 11 (some 2), .row false 11 els) := by kernel_rfl
 rw [this]
 have hr : List.replicate 2 [AV.int .i64 0, .int .i64 0, .str [], .str [], .int .i64 0, .nilSl, .int .i64 0, .int .i64 0, .int .i64 0, .int .i64 0, .int .i64 0] = [[AV.int .i64 0, .int .i64 0, .str [], .str [], .int .i64 0, .nilSl, .int .i64 0, .int .i64 0, .int .i64 0, .int .i64 0, .int .i64 0], [AV.int .i64 0, .int .i64 0, .str [], .str [], .int .i64 0, .nilSl, .int .i64 0, .int .i64 0, .int .i64 0, .int .i64 0, .int .i64 0]] := rfl
 rw [hr]
 simp [asetEls, AV.cells, h, ho, h', ho']
theorem Keep.push {H : AHeap} {ok ok' : Nat → Prop} (b : ABlk) (hl : ∀ l, ok l → ok' l) : Keep H ok (H.push b) ok' := Keep.pur (Pur.push H b) hl
theorem Keep.set {H : AHeap} {ok ok' : Nat → Prop} {l : Nat} (b : ABlk) (h : ¬ ok l) (hl : ∀ l, ok l → ok' l) : Keep H ok (H.set l b) ok' := fun j ro els hj e => ⟨hl j hj, by rw [AHeap.get_set_other (by rintro rfl; exact h hj)]; exact e⟩
theorem Keep.le' {H : AHeap} {ok ok' : Nat → Prop} (h : ∀ l, ok l → ok' l) : Keep H ok H ok' := fun l ro els hl e => ⟨h l hl, e⟩
theorem ExV.cells {H : AHeap} {ok : Nat → Prop} {e : Ex} {v : AV} (h : ExV H ok e v) : ∃ cs, v = .agg cs ∧ cs.length = 11 ∧ cs.all AV.one = true := by
 obtain ⟨k, n, nm, o, d, kv, p, t1, t2, t3, rf, rfl, h1⟩ := h.agg
 exact ⟨_, rfl, rfl, by simp only [List.all_cons, List.all_nil, one_int, one_str, h1, Bool.and_self]⟩
theorem ExV.same {H : AHeap} {ok : Nat → Prop} {e : Ex} {v : AV} (h : ExV H ok e v) : rdIs (some v) v = true := by
 cases e with | mk a ks =>
 rw [ExV_mk] at h
 obtain ⟨kv, rfl, h2⟩ := h
 have : AV.beq kv kv = true := by rcases h2 with ⟨rfl, _⟩ | ⟨l, i, cap, ro, els, rfl, _⟩ | ⟨l, i, cap, rfl, _⟩ <;> simp [AV.beq]
 simp [rdIs, AV.beq, AVs.beq, Ea.cells, this]
def PostL (ok : Nat → Prop) (H : AHeap) (r : Nat) (T : List Tok) (tv lv : AV) (e : Ex) (s' : St) (v : AV) (H' : AHeap) : Prop := Mt r H H' ∧ Rx H' r T tv lv s' ∧ ExV H' ok e v
abbrev PostE (H : AHeap) := PostL (Ge H.next) H
theorem PostE.box {H Hc : AHeap} {r : Nat} {T : List Tok} {tv lv : AV} {s s' : St} {a : Ea} {ks : List Ex} {kv : AV} {b : Nat} {lo : Nat} (hx : Rx H r T tv lv s) (m : Mt r H Hc) (hd : Rd Hc r tv lv s') (hb : H.next ≤ b) (hlo : b < lo) (hk : KsV Hc (Ge lo) ks kv) (blk : ABlk) :
  PostE H r T tv lv (.mk a ks) s' (.agg (a.cells kv)) (Hc.set b blk) := by
 have hl := hx.rd.lt
 have m' := m.then_set (.inr hb) blk
 refine ⟨m', hx.mut m' ?_, ?_⟩
 ·unfold Rd at hd ⊢
  rw [AHeap.get_set_other (by omega)]; exact hd
 ·rw [ExV_mk]
  exact ⟨kv, rfl, hk.keep (Keep.set _ (by unfold Ge; omega) fun l hl => by unfold Ge at *; omega)⟩
theorem KsV.nil (H : AHeap) (ok : Nat → Prop) : KsV H ok [] .nilSl := .inl ⟨rfl, rfl⟩
theorem truth_spec {H : AHeap} {r : Nat} {T : List Tok} {tv lv : AV} {s : St} (hx : Rx H r T tv lv s) : W (evw P 113 [.ptr r 0 0] H) (PostE H r T tv lv (truthS T s).1 (truthS T s).2) := by
 refine W_of (fun _ => run113 0) ?_
 have hl := hx.rd.lt
 have ho1 := hx.tk.one
 have ho2 := hx.lv.one
 simp -implicitDefEqProofs (disch := first | assumption | omega | (simp only [nxB]; omega) | (simp only [oneB])) only [s113_j0, s113, xlen, AV.cells, splice, aload, astore, Nat.reduceAdd, Nat.reduceLeDiff, reduceIte, allB]
 refine W_call (tok_spec (hx.rd.pur (Pur.push _ _)) (hx.tk.pur (Pur.push _ _))) ?_
 rintro _ H2 ⟨rfl, p2⟩
 refine ⟨p2.1, ?_⟩
 have hn2 := p2.1
 simp only [AHeap.next_push] at hn2
 have mb := ((Pur.push H _).trans p2).mut (· = r)
 have hr2 := hx.rd.pur ((Pur.push H _).trans p2)
 unfold Rd at hr2
 have hb2 := p2.get (AHeap.get_push_same H _)
 cases ht : (tokAt T s.at_).text == [116, 114, 117, 101] with
 | true =>
  simp -implicitDefEqProofs (disch := first | assumption | omega | (simp only [nxB]; omega) | (simp only [oneB])) only [s113_j0, s113, xlen, AV.cells, splice, aload, astore, Nat.reduceAdd, Nat.reduceLeDiff, reduceIte, allB, Tok.v, hr2, hb2, ho1, ho2, ht]
  simp only [truthS, ht, cond_true]
  refine W_some.2 ?_
  refine PostE.box (a := { kind := 2, n := 1, pos := (tokAt T s.at_).pos }) (kv := .nilSl) (s' := goS s) (lo := H.next + 1) hx ?_ ?_ ?_ ?_ (KsV.nil _ _) _
  ·(repeat (first | exact mb | refine Mut.then_push ?_ _ | refine Mut.then_set (S := (· = r)) ?_ (.inl rfl) _ | refine Mut.then_set ?_ (.inr (by (first | omega | (simp only [AHeap.next_push, AHeap.next_set]; omega)))) _))
  ·(unfold Rd; simp -implicitDefEqProofs (disch := first | assumption | omega | (simp only [nxB]; omega) | (simp only [oneB])) only [heapB, hr2, goS, outS])
  ·exact Nat.le_refl _
  ·exact Nat.lt_succ_self _
 | false =>
  simp -implicitDefEqProofs (disch := first | assumption | omega | (simp only [nxB]; omega) | (simp only [oneB])) only [s113_j0, s113, xlen, AV.cells, splice, aload, astore, Nat.reduceAdd, Nat.reduceLeDiff, reduceIte, allB, Tok.v, hr2, hb2, ho1, ho2, ht]
  simp only [truthS, ht, cond_false]
  refine W_some.2 ?_
  refine PostE.box (a := { kind := 2, n := 0, pos := (tokAt T s.at_).pos }) (kv := .nilSl) (s' := goS s) (lo := H.next + 1) hx ?_ ?_ ?_ ?_ (KsV.nil _ _) _
  ·(repeat (first | exact mb | refine Mut.then_push ?_ _ | refine Mut.then_set (S := (· = r)) ?_ (.inl rfl) _ | refine Mut.then_set ?_ (.inr (by (first | omega | (simp only [AHeap.next_push, AHeap.next_set]; omega)))) _))
  ·(unfold Rd; simp -implicitDefEqProofs (disch := first | assumption | omega | (simp only [nxB]; omega) | (simp only [oneB])) only [heapB, hr2, goS, outS])
  ·exact Nat.le_refl _
  ·exact Nat.lt_succ_self _
theorem null_spec {H : AHeap} {r : Nat} {T : List Tok} {tv lv : AV} {s : St} (hx : Rx H r T tv lv s) : W (evw P 114 [.ptr r 0 0] H) (PostE H r T tv lv (nullS T s).1 (nullS T s).2) := by
 refine W_of (fun _ => run114 0) ?_
 have hl := hx.rd.lt
 have ho1 := hx.tk.one
 have ho2 := hx.lv.one
 simp -implicitDefEqProofs (disch := first | assumption | omega | (simp only [nxB]; omega) | (simp only [oneB])) only [s114, xlen, AV.cells, splice, aload, astore, Nat.reduceAdd, Nat.reduceLeDiff, reduceIte, allB]
 refine W_call (tok_spec (hx.rd.pur (Pur.push _ _)) (hx.tk.pur (Pur.push _ _))) ?_
 rintro _ H2 ⟨rfl, p2⟩
 refine ⟨p2.1, ?_⟩
 have hn2 := p2.1
 simp only [AHeap.next_push] at hn2
 have mb := ((Pur.push H _).trans p2).mut (· = r)
 have hrd2 := hx.rd.pur ((Pur.push H _).trans p2)
 have hr2 := hrd2
 unfold Rd at hr2
 have hb2 := p2.get (AHeap.get_push_same H _)
 obtain ⟨m3, hd3⟩ := fail_set hrd2 (goS s)
 simp -implicitDefEqProofs (disch := first | assumption | omega | (simp only [nxB]; omega) | (simp only [oneB])) only [s114, xlen, AV.cells, splice, aload, astore, Nat.reduceAdd, Nat.reduceLeDiff, reduceIte, allB, Tok.v, hr2, ho1, ho2]
 refine W_call (of_spec (hx.mut (mb.trans m3) hd3)) ?_
 rintro _ H4 ⟨rfl, m4, hx4⟩
 refine ⟨m4.1, ?_⟩
 have hb4 := m4.get (m3.get hb2 (by omega)) (by omega)
 have hl4 := AHeap.get_lt hb4
 replace mb := (mb.trans m3).trans m4
 simp -implicitDefEqProofs (disch := first | assumption | omega | (simp only [nxB]; omega) | (simp only [oneB])) only [s114, xlen, AV.cells, splice, aload, astore, Nat.reduceAdd, Nat.reduceLeDiff, reduceIte, allB, hb4]
 refine W_some.2 ?_
 exact PostE.box (a := { kind := 3, ofn := (ofS T (goS s)).1.1, ofd := (ofS T (goS s)).1.2, pos := (tokAt T s.at_).pos }) (kv := .nilSl) (lo := H.next + 1) hx mb hx4.rd (Nat.le_refl _) (Nat.lt_succ_self _) (KsV.nil _ _) _
theorem read_spec {H : AHeap} {r : Nat} {T : List Tok} {tv lv : AV} {s : St} (hx : Rx H r T tv lv s) : W (evw P 117 [.ptr r 0 0] H) (PostE H r T tv lv (readS T s).1 (readS T s).2) := by
 refine W_of (fun _ => run117 0) ?_
 have hl := hx.rd.lt
 have ho1 := hx.tk.one
 have ho2 := hx.lv.one
 simp -implicitDefEqProofs (disch := first | assumption | omega | (simp only [nxB]; omega) | (simp only [oneB])) only [s117_j0, s117, xlen, AV.cells, splice, aload, astore, Nat.reduceAdd, Nat.reduceLeDiff, reduceIte, allB]
 refine W_call (tok_spec (hx.rd.pur (Pur.push _ _)) (hx.tk.pur (Pur.push _ _))) ?_
 rintro _ H2 ⟨rfl, p2⟩
 refine ⟨p2.1, ?_⟩
 have hn2 := p2.1
 simp only [AHeap.next_push] at hn2
 have mb := ((Pur.push H _).trans p2).mut (· = r)
 have hrd2 := hx.rd.pur ((Pur.push H _).trans p2)
 have hr2 := hrd2
 unfold Rd at hr2
 have hb2 := p2.get (AHeap.get_push_same H _)
 obtain ⟨m3, hd3⟩ := fail_set hrd2 (goS s)
 simp -implicitDefEqProofs (disch := first | assumption | omega | (simp only [nxB]; omega) | (simp only [oneB])) only [s117_j0, s117, xlen, AV.cells, splice, aload, astore, Nat.reduceAdd, Nat.reduceLeDiff, reduceIte, allB, Tok.v, hr2, ho1, ho2]
 refine W_call (opens_spec (hx.mut (mb.trans m3) hd3) [40]) ?_
 rintro _ H4 ⟨rfl, m4, hx4⟩
 refine ⟨m4.1, ?_⟩
 have hb4 := m4.get (m3.get hb2 (by omega)) (by omega)
 have hl4 := AHeap.get_lt hb4
 replace mb := (mb.trans m3).trans m4
 cases ho : (opensS T [40] (goS s)).1 with
 | true =>
  rw [show readS T s = (.mk { kind := 11, pos := (tokAt T s.at_).pos } [], (closesS T [41] (opensS T [40] (goS s)).2).2) by simp only [readS, ho, cond_true]]
  simp -implicitDefEqProofs (disch := first | assumption | omega | (simp only [nxB]; omega) | (simp only [oneB])) only [s117_j0, s117, xlen, AV.cells, splice, aload, astore, Nat.reduceAdd, Nat.reduceLeDiff, reduceIte, allB]
  refine W_call (closes_spec hx4 [41]) ?_
  rintro _ H5 ⟨rfl, m5, hx5⟩
  refine ⟨m5.1, ?_⟩
  have hb5 := m5.get hb4 (by omega)
  have hl5 := AHeap.get_lt hb5
  simp -implicitDefEqProofs (disch := first | assumption | omega | (simp only [nxB]; omega) | (simp only [oneB])) only [s117_j0, s117, xlen, AV.cells, splice, aload, astore, Nat.reduceAdd, Nat.reduceLeDiff, reduceIte, allB, hb5]
  refine W_some.2 ?_
  exact PostE.box (a := { kind := 11, pos := (tokAt T s.at_).pos }) (kv := .nilSl) (lo := H.next + 1) hx (mb.trans m5) hx5.rd (Nat.le_refl _) (Nat.lt_succ_self _) (KsV.nil _ _) _
 | false =>
  rw [show readS T s = (.mk { kind := 11, pos := (tokAt T s.at_).pos } [], (opensS T [40] (goS s)).2) by simp only [readS, ho, cond_false]]
  simp -implicitDefEqProofs (disch := first | assumption | omega | (simp only [nxB]; omega) | (simp only [oneB])) only [s117_j0, s117, xlen, AV.cells, splice, aload, astore, Nat.reduceAdd, Nat.reduceLeDiff, reduceIte, allB, hb4]
  refine W_some.2 ?_
  exact PostE.box (a := { kind := 11, pos := (tokAt T s.at_).pos }) (kv := .nilSl) (lo := H.next + 1) hx mb hx4.rd (Nat.le_refl _) (Nat.lt_succ_self _) (KsV.nil _ _) _
end Go.Proofs.Ytnjoomfeddamcaa

namespace Go.Proofs.Ytnjoomfeddamcaa
open Go.Ev
theorem PostL.fin {ok : Nat → Prop} {H Hf : AHeap} {r : Nat} {T : List Tok} {tv lv : AV} {s s' : St} {a : Ea} {ks : List Ex} {kv : AV} (hx : Rx H r T tv lv s) (m : Mt r H Hf) (hd : Rd Hf r tv lv s') (hk : KsV Hf ok ks kv) : PostL ok H r T tv lv (.mk a ks) s' (.agg (a.cells kv)) Hf :=
 ⟨m, hx.mut m hd, ExV_mk.2 ⟨kv, rfl, hk⟩⟩
theorem KsV.one_at {H : AHeap} {ok : Nat → Prop} {L : Nat} {e : Ex} {cs : List AV} {cap : Option Nat} {ro : Bool} (hg : H.get L = some (.row ro 11 [cs])) (hl : ok L) (h : ExV H ok e (.agg cs)) : KsV H ok [e] (.sl L 0 1 11 cap) := by
 refine .inr (.inl ⟨L, 0, cap, ro, [cs], rfl, hl, hg, ?_⟩)
 simp only [List.drop_zero]
 rw [ElsV, ElsV]
 exact ⟨h, trivial⟩
theorem KsV.two_at {H : AHeap} {ok : Nat → Prop} {L : Nat} {e f : Ex} {cs ds : List AV} {cap : Option Nat} {ro : Bool} (hg : H.get L = some (.row ro 11 [cs, ds])) (hl : ok L) (h : ExV H ok e (.agg cs)) (h' : ExV H ok f (.agg ds)) : KsV H ok [e, f] (.sl L 0 2 11 cap) := by
 refine .inr (.inl ⟨L, 0, cap, ro, [cs, ds], rfl, hl, hg, ?_⟩)
 simp only [List.drop_zero]
 rw [ElsV, ElsV, ElsV]
 exact ⟨h, h', trivial⟩
theorem ExV.mut {H H' : AHeap} {ok ok' : Nat → Prop} {r : Nat} {e : Ex} {v : AV} (h : ExV H ok e v) (m : Mt r H H') (hr : ¬ ok r) (hl : ∀ l, ok l → ok' l) : ExV H' ok' e v := ExV.keep (Keep.mut m hr hl) e v h
theorem ExV.new {H H' : AHeap} {ok : Nat → Prop} {n : Nat} {e : Ex} {v : AV} (h : ExV H (Ge n) e v) (m : Mut (· < n) H H') (hl : ∀ l, n ≤ l → ok l) : ExV H' ok e v :=
 ExV.keep (fun l ro els hl' g => ⟨hl l hl', m.get g (Nat.not_lt.2 hl')⟩) e v h
theorem field_end {ok : Nat → Prop} {H0 H : AHeap} {r : Nat} {T : List Tok} {tv lv : AV} {s0 s : St} {e : Ex} {cs : List AV} (hx0 : Rx H0 r T tv lv s0) (he : ExV H0 ok e (.agg cs)) (hlen : cs.length = 11) (hone : cs.all AV.one = true) (hlo : ¬ ok r) (hlo' : ∀ l, H0.next ≤ l → ok l) {b3 b4 b6 : Nat} {k n q pos : Int} {x : Bs} (mb : Mt r H0 H) (hrd : Rd H r tv lv s)
  (h3 : H.get b3 = some (.row false 11 [cs])) {zs : List AV} (h4 : H.get b4 = some (.row false 11 [zs])) (hz : zs.length = 11) (h6 : H.get b6 = some (.row false 4 [[.int .i64 k, .str x, .int .i64 n, .int .i64 q]])) (hb3 : H0.next ≤ b3) (hb4 : H0.next ≤ b4) (hb6 : H0.next ≤ b6) (h34 : b3 ≠ b4) :
  W (s110_j0 (evw P) (.ptr r 0 0) (.ptr b3 0 0) (.ptr b4 0 0) (.int .i64 pos) (.ptr b6 0 0) H) (PostL ok H0 r T tv lv (.mk { kind := 5, name := x, pos := pos } [e]) (goS s)) := by
 have hl := hx0.rd.lt
 have ho1 := hx0.tk.one
 have ho2 := hx0.lv.one
 have hr2 := hrd
 unfold Rd at hr2
 have hlr := hrd.lt
 have l3 := AHeap.get_lt h3
 have l4 := AHeap.get_lt h4
 have l6 := AHeap.get_lt h6
 have hle := mb.1
 have ht : List.take 11 cs = cs := List.take_of_length_le (by omega)
 have hs : ∀ l, sliceOf P l 35 1 [(0, .agg cs)] = some (.sl l 0 1 11 (some 1), .row false 11 [cs]) := fun l => sl35_1 l cs hlen hone
 have hd : List.drop 11 zs = [] := List.drop_of_length_le (by omega)
 simp -implicitDefEqProofs (disch := first | assumption | omega | (simp only [nxB]; omega) | (simp only [oneB])) only [s110_j0, s110, xlen, AV.cells, splice, aload, astore, Nat.reduceAdd, Nat.reduceLeDiff, reduceIte, allB, hr2, ho1, ho2, h3, h4, h6, ht, hs, hd]
 refine W_some.2 ?_
 refine PostL.fin (a := { kind := 5, name := x, pos := pos }) (kv := .sl H.next 0 1 11 (some 1)) hx0 ?_ ?_ (KsV.one_at (ro := false) ?_ (hlo' _ (by omega)) (he.mut (r := r) ?_ hlo fun _ h => h))
 ·(repeat (first | exact mb | refine Mut.then_push ?_ _ | refine Mut.then_set (S := (· = r)) ?_ (.inl rfl) _ | refine Mut.then_set ?_ (.inr (by (first | omega | (simp only [AHeap.next_push, AHeap.next_set]; omega)))) _))
 ·(unfold Rd; simp -implicitDefEqProofs (disch := first | assumption | omega | (simp only [nxB]; omega) | (simp only [oneB])) only [heapB, hr2, goS, outS])
 ·simp -implicitDefEqProofs (disch := first | assumption | omega | (simp only [nxB]; omega) | (simp only [oneB])) only [heapB]
 ·(repeat (first | exact mb | refine Mut.then_push ?_ _ | refine Mut.then_set (S := (· = r)) ?_ (.inl rfl) _ | refine Mut.then_set ?_ (.inr (by (first | omega | (simp only [AHeap.next_push, AHeap.next_set]; omega)))) _))
theorem field_spec {ok : Nat → Prop} {H : AHeap} {r : Nat} {T : List Tok} {tv lv : AV} {s : St} {e : Ex} {v : AV} (hx : Rx H r T tv lv s) (he : ExV H ok e v) (hlo : ¬ ok r) (hlo' : ∀ l, H.next ≤ l → ok l) : W (evw P 110 [.ptr r 0 0, v] H) (PostL ok H r T tv lv (fieldS T e s).1 (fieldS T e s).2) := by
 refine W_of (fun _ => run110 0) ?_
 obtain ⟨cs, rfl, hlen, hone⟩ := he.cells
 have hl := hx.rd.lt
 have ho1 := hx.tk.one
 have ho2 := hx.lv.one
 have hbx : ∀ l, boxOf l (.agg cs) = some (.ptr l 0 0, .row false 11 [cs]) := fun l => by rw [boxOf_agg l cs hone, hlen]
 simp -implicitDefEqProofs (disch := first | assumption | omega | (simp only [nxB]; omega) | (simp only [oneB])) only [s110, xlen, AV.cells, splice, aload, astore, Nat.reduceAdd, Nat.reduceLeDiff, reduceIte, allB, hbx]
 have p1 := (Pur.push H (.row false 11 [cs])).then_push (.row false 11 [[.int .i64 0, .int .i64 0, .str [], .str [], .int .i64 0, .nilSl, .int .i64 0, .int .i64 0, .int .i64 0, .int .i64 0, .int .i64 0]])
 refine W_call (tok_spec (hx.rd.pur p1) (hx.tk.pur p1)) ?_
 rintro _ H2 ⟨rfl, p2⟩
 refine ⟨p2.1, ?_⟩
 have hn2 := p2.1
 simp only [AHeap.next_push] at hn2
 have mb := (p1.trans p2).mut (· = r)
 have hrd2 := hx.rd.pur (p1.trans p2)
 have hr2 := hrd2
 unfold Rd at hr2
 have h3 : H2.get H.next = some (.row false 11 [cs]) := by rw [p2.2 _ (by simp only [AHeap.next_push]; omega)]; simp -implicitDefEqProofs (disch := first | assumption | omega | (simp only [nxB]; omega) | (simp only [oneB])) only [heapB]
 have h4 : H2.get (H.next + 1) = some (.row false 11 [[.int .i64 0, .int .i64 0, .str [], .str [], .int .i64 0, .nilSl, .int .i64 0, .int .i64 0, .int .i64 0, .int .i64 0, .int .i64 0]]) := by rw [p2.2 _ (by simp only [AHeap.next_push]; omega)]; simp -implicitDefEqProofs (disch := first | assumption | omega | (simp only [nxB]; omega) | (simp only [oneB])) only [heapB]
 obtain ⟨m3, hd3⟩ := fail_set hrd2 (goS s)
 simp -implicitDefEqProofs (disch := first | assumption | omega | (simp only [nxB]; omega) | (simp only [oneB])) only [s110, xlen, AV.cells, splice, aload, astore, Nat.reduceAdd, Nat.reduceLeDiff, reduceIte, allB, Tok.v, hr2, ho1, ho2]
 have hx3 := hx.mut (mb.trans m3) hd3
 refine W_call (tok_spec hx3.rd hx3.tk) ?_
 rintro _ H4 ⟨rfl, p4⟩
 refine ⟨p4.1, ?_⟩
 have hn4 := p4.1
 simp only [AHeap.next_set] at hn4
 have hx4 := hx3.pur p4
 have mb4 := (mb.trans m3).trans (p4.mut _)
 have h34 := p4.get (m3.get h3 (by omega))
 have h44 := p4.get (m3.get h4 (by omega))
 have p5 := Pur.push H4 (.row false 4 [[.int .i64 (tokAt T (goS s).at_).kind, .str (tokAt T (goS s).at_).text, .int .i64 (tokAt T (goS s).at_).n, .int .i64 (tokAt T (goS s).at_).pos]])
 have h65 := AHeap.get_push_same H4 (.row false 4 [[.int .i64 (tokAt T (goS s).at_).kind, .str (tokAt T (goS s).at_).text, .int .i64 (tokAt T (goS s).at_).n, .int .i64 (tokAt T (goS s).at_).pos]])
 by_cases hk : (tokAt T (goS s).at_).kind = 1
 ·have hk' : ((tokAt T (goS s).at_).kind != 1) = false := by simpa using hk
  rw [show fieldS T e s = (.mk { kind := 5, name := (tokAt T (goS s).at_).text, pos := (tokAt T s.at_).pos } [e], goS (goS s)) by simp only [fieldS, hk', cond_false]]
  simp -implicitDefEqProofs (disch := first | assumption | omega | (simp only [nxB]; omega) | (simp only [oneB])) only [s110, xlen, AV.cells, splice, aload, astore, Nat.reduceAdd, Nat.reduceLeDiff, reduceIte, allB, Tok.v, hk']
  exact field_end hx he hlen hone hlo hlo' (mb4.trans (p5.mut _)) (hx4.rd.pur p5) (p5.get h34) (p5.get h44) rfl h65 (by omega) (by omega) (by omega) (by omega)
 ·have hk' : ((tokAt T (goS s).at_).kind != 1) = true := by simpa using hk
  rw [show fieldS T e s = (.mk { kind := 5, name := (tokAt T (goS s).at_).text, pos := (tokAt T s.at_).pos } [e], goS (failS T 2 (goS s))) by simp only [fieldS, hk', cond_true]]
  simp -implicitDefEqProofs (disch := first | assumption | omega | (simp only [nxB]; omega) | (simp only [oneB])) only [s110, xlen, AV.cells, splice, aload, astore, Nat.reduceAdd, Nat.reduceLeDiff, reduceIte, allB, Tok.v, hk']
  refine W_call (fail_spec (hx4.pur p5) 2) ?_
  rintro _ H6 ⟨rfl, m6, hx6⟩
  refine ⟨m6.1, ?_⟩
  try simp only [s110]
  exact field_end hx he hlen hone hlo hlo' ((mb4.trans (p5.mut _)).trans m6) hx6.rd (m6.get (p5.get h34) (by omega)) (m6.get (p5.get h44) (by omega)) rfl (m6.get h65 (by omega)) (by omega) (by omega) (by omega) (by omega)
def RowOk (n : Nat) : Prop := ∀ {H : AHeap} {r : Nat} {T : List Tok} {tv lv : AV} {s : St}, Rx H r T tv lv s → lv ≠ .nilSl → ∀ (lev : Nat), lev ≤ 5 → ∀ (e : Ex) (s' : St), rowF T n lev s = some (e, s') → W (evw P 71 [.ptr r 0 0, .int .i64 lev] H) (PostE H r T tv lv e s')
def UnaryOk (n : Nat) : Prop := ∀ {H : AHeap} {r : Nat} {T : List Tok} {tv lv : AV} {s : St}, Rx H r T tv lv s → lv ≠ .nilSl → ∀ (e : Ex) (s' : St), unaryF T n s = some (e, s') → W (evw P 83 [.ptr r 0 0] H) (PostE H r T tv lv e s')
def ChainOk (n : Nat) : Prop := ∀ {H : AHeap} {r : Nat} {T : List Tok} {tv lv : AV} {s : St}, Rx H r T tv lv s → lv ≠ .nilSl → ∀ (e : Ex) (s' : St), chainF T n s = some (e, s') → W (evw P 102 [.ptr r 0 0] H) (PostE H r T tv lv e s')
def FirstOk (n : Nat) : Prop := ∀ {H : AHeap} {r : Nat} {T : List Tok} {tv lv : AV} {s : St}, Rx H r T tv lv s → lv ≠ .nilSl → ∀ (e : Ex) (s' : St), firstF T n s = some (e, s') → W (evw P 106 [.ptr r 0 0] H) (PostE H r T tv lv e s')
def SingleOk (n : Nat) : Prop := ∀ {H : AHeap} {r : Nat} {T : List Tok} {tv lv : AV} {s : St}, Rx H r T tv lv s → lv ≠ .nilSl → ∀ (b c : Bs) (e : Ex) (s' : St), singleF T n b c s = some (e, s') → W (evw P 119 [.ptr r 0 0, .str b, .str c] H) (PostE H r T tv lv e s')
def NameOk (n : Nat) : Prop := ∀ {H : AHeap} {r : Nat} {T : List Tok} {tv lv : AV} {s : St}, Rx H r T tv lv s → lv ≠ .nilSl → ∀ (e : Ex) (s' : St), nameF T n s = some (e, s') → W (evw P 108 [.ptr r 0 0] H) (PostE H r T tv lv e s')
def FreshOk (n : Nat) : Prop := ∀ {H : AHeap} {r : Nat} {T : List Tok} {tv lv : AV} {s : St}, Rx H r T tv lv s → lv ≠ .nilSl → ∀ (e : Ex) (s' : St), freshF T n s = some (e, s') → W (evw P 115 [.ptr r 0 0] H) (PostE H r T tv lv e s')
def ListOk (n : Nat) : Prop := ∀ {H : AHeap} {r : Nat} {T : List Tok} {tv lv : AV} {s : St}, Rx H r T tv lv s → lv ≠ .nilSl → ∀ (l : List Ex) (s' : St), listF T n s = some (l, s') → W (evw P 112 [.ptr r 0 0, .func (.func 41) [.ptr r 0 0] []] H) fun v H' => Mt r H H' ∧ Rx H' r T tv lv s' ∧ KsV H' (Ge H.next) l v
structure AllOk (n : Nat) : Prop where
 row : RowOk n
 unary : UnaryOk n
 chain : ChainOk n
 first : FirstOk n
 single : SingleOk n
 name : NameOk n
 fresh : FreshOk n
 list : ListOk n
theorem PostE.ret {H H2 : AHeap} {r : Nat} {T : List Tok} {tv lv : AV} {s s' : St} {e : Ex} {v : AV} {b n : Nat} (hx : Rx H r T tv lv s) (m : Mt r H H2) (hd : Rd H2 r tv lv s') (hb : H.next ≤ b) (he : ExV H2 (Ge n) e v) (hn : b < n) (blk : ABlk) : PostE H r T tv lv e s' v (H2.set b blk) := by
 have hl := hx.rd.lt
 have m' := m.then_set (.inr hb) blk
 refine ⟨m', hx.mut m' ?_, he.new (Mut.then_set (S := (· < n)) (Mut.refl _ _) (.inl hn) _) fun l h => by unfold Ge; omega⟩
 unfold Rd at hd ⊢
 rw [AHeap.get_set_other (by omega)]; exact hd
theorem whole_spec {n : Nat} (ih : RowOk n) {H : AHeap} {r : Nat} {T : List Tok} {tv lv : AV} {s : St} (hx : Rx H r T tv lv s) (hlv : lv ≠ .nilSl) {e : Ex} {s' : St} (h : rowF T n 0 s = some (e, s')) : W (evw P 41 [.ptr r 0 0] H) (PostE H r T tv lv e s') := by
 refine W_of (fun _ => run41 0) ?_
 have hl := hx.rd.lt
 simp -implicitDefEqProofs (disch := first | assumption | omega | (simp only [nxB]; omega) | (simp only [oneB])) only [s41, xlen, AV.cells, splice, aload, astore, Nat.reduceAdd, Nat.reduceLeDiff, reduceIte, allB]
 have p1 := Pur.push H (.row false 11 [[.int .i64 0, .int .i64 0, .str [], .str [], .int .i64 0, .nilSl, .int .i64 0, .int .i64 0, .int .i64 0, .int .i64 0, .int .i64 0]])
 refine W_call (ih (hx.pur p1) hlv 0 (by omega) e s' h) ?_
 rintro v H2 ⟨m2, hx2, he2⟩
 refine ⟨m2.1, ?_⟩
 have hb2 := m2.get (AHeap.get_push_same H _) (by omega)
 have hlb := AHeap.get_lt hb2
 obtain ⟨cs, rfl, hlen, hone⟩ := he2.cells
 have ht : List.take 11 cs = cs := List.take_of_length_le (by omega)
 simp -implicitDefEqProofs (disch := first | assumption | omega | (simp only [nxB]; omega) | (simp only [oneB])) only [s41, xlen, AV.cells, splice, aload, astore, Nat.reduceAdd, Nat.reduceLeDiff, reduceIte, allB, hb2, hlen, hone, List.append_nil, ht]
 exact W_some.2 (PostE.ret hx ((p1.mut _).trans m2) hx2.rd (Nat.le_refl _) he2 (Nat.lt_succ_self _) _)
theorem single_step {n : Nat} (ih : RowOk n) : SingleOk (n + 1) := by
 intro H r T tv lv s hx hlv b c e s' h
 refine W_of (fun _ => run119 0) ?_
 have hl := hx.rd.lt
 have p1 := Pur.push H (.row false 11 [[.int .i64 0, .int .i64 0, .str [], .str [], .int .i64 0, .nilSl, .int .i64 0, .int .i64 0, .int .i64 0, .int .i64 0, .int .i64 0]])
 simp -implicitDefEqProofs (disch := first | assumption | omega | (simp only [nxB]; omega) | (simp only [oneB])) only [s119, xlen, AV.cells, splice, aload, astore, Nat.reduceAdd, Nat.reduceLeDiff, reduceIte, allB]
 refine W_call (opens_spec (hx.pur p1) b) ?_
 rintro _ H2 ⟨rfl, m2, hx2⟩
 refine ⟨m2.1, ?_⟩
 have hb2 := m2.get (AHeap.get_push_same H _) (by omega)
 have hlb := AHeap.get_lt hb2
 have mb := (p1.mut (· = r)).trans m2
 simp only [singleF] at h
 cases ho : (opensS T b s).1 with
 | false =>
  simp only [ho, cond_false, Option.some.injEq, Prod.mk.injEq] at h
  obtain ⟨rfl, rfl⟩ := h
  simp -implicitDefEqProofs (disch := first | assumption | omega | (simp only [nxB]; omega) | (simp only [oneB])) only [s119, xlen, AV.cells, splice, aload, astore, Nat.reduceAdd, Nat.reduceLeDiff, reduceIte, allB, Bool.not_false, hb2]
  exact W_some.2 (PostE.ret hx mb hx2.rd (Nat.le_refl _) (ExV.leaf _ (Ge (H.next + 1)) { kind := 0 }) (Nat.lt_succ_self _) _)
 | true =>
  simp only [ho, cond_true, Option.bind_eq_some_iff] at h
  obtain ⟨⟨e1, s1⟩, h1, h2⟩ := h
  simp only [Option.some.injEq, Prod.mk.injEq] at h2
  obtain ⟨rfl, rfl⟩ := h2
  simp -implicitDefEqProofs (disch := first | assumption | omega | (simp only [nxB]; omega) | (simp only [oneB])) only [s119, xlen, AV.cells, splice, aload, astore, Nat.reduceAdd, Nat.reduceLeDiff, reduceIte, allB, Bool.not_true]
  refine W_call (whole_spec ih hx2 hlv h1) ?_
  rintro v H3 ⟨m3, hx3, he3⟩
  refine ⟨m3.1, ?_⟩
  have hb3 := m3.get hb2 (by omega)
  have hlb3 := AHeap.get_lt hb3
  obtain ⟨cs, rfl, hlen, hone⟩ := he3.cells
  have ht : List.take 11 cs = cs := List.take_of_length_le (by omega)
  simp -implicitDefEqProofs (disch := first | assumption | omega | (simp only [nxB]; omega) | (simp only [oneB])) only [s119, xlen, AV.cells, splice, aload, astore, Nat.reduceAdd, Nat.reduceLeDiff, reduceIte, allB, hlen, hone, List.append_nil, ht]
  have p4 := Pur.push H3 (.row false 11 [cs])
  refine W_call (closes_spec (hx3.pur p4) c) ?_
  rintro _ H5 ⟨rfl, m5, hx5⟩
  refine ⟨m5.1, ?_⟩
  have hb5 := m5.get (p4.get hb3) (by omega)
  have hlb5 := AHeap.get_lt hb5
  have hc5 := m5.get (AHeap.get_push_same H3 (.row false 11 [cs])) (by omega)
  have hm2 := m2.1
  simp only [AHeap.next_push] at hm2
  simp -implicitDefEqProofs (disch := first | assumption | omega | (simp only [nxB]; omega) | (simp only [oneB])) only [s119, xlen, AV.cells, splice, aload, astore, Nat.reduceAdd, Nat.reduceLeDiff, reduceIte, allB, hlen, hone, List.append_nil, ht, hb5, hc5]
  refine W_some.2 (PostE.ret hx (((mb.trans m3).trans (p4.mut _)).trans m5) hx5.rd (Nat.le_refl _) (n := H2.next) (he3.new ?_ fun _ h => h) (by omega) _)
  exact ((Pur.push _ _).mut _).trans ⟨m5.1, fun l hl' hS => m5.2 l hl' (by omega)⟩
theorem within_spec {n : Nat} (ih : SingleOk n) {H : AHeap} {r : Nat} {T : List Tok} {tv lv : AV} {s : St} (hx : Rx H r T tv lv s) (hlv : lv ≠ .nilSl) {e : Ex} {s' : St} (h : singleF T n [40] [41] s = some (e, s')) : W (evw P 118 [.ptr r 0 0] H) (PostE H r T tv lv e s') := by
 refine W_of (fun _ => run118 0) ?_
 have hl := hx.rd.lt
 simp -implicitDefEqProofs (disch := first | assumption | omega | (simp only [nxB]; omega) | (simp only [oneB])) only [s118, xlen, AV.cells, splice, aload, astore, Nat.reduceAdd, Nat.reduceLeDiff, reduceIte, allB]
 have p1 := Pur.push H (.row false 11 [[.int .i64 0, .int .i64 0, .str [], .str [], .int .i64 0, .nilSl, .int .i64 0, .int .i64 0, .int .i64 0, .int .i64 0, .int .i64 0]])
 refine W_call (ih (hx.pur p1) hlv [40] [41] e s' h) ?_
 rintro v H2 ⟨m2, hx2, he2⟩
 refine ⟨m2.1, ?_⟩
 have hb2 := m2.get (AHeap.get_push_same H _) (by omega)
 have hlb := AHeap.get_lt hb2
 obtain ⟨cs, rfl, hlen, hone⟩ := he2.cells
 have ht : List.take 11 cs = cs := List.take_of_length_le (by omega)
 simp -implicitDefEqProofs (disch := first | assumption | omega | (simp only [nxB]; omega) | (simp only [oneB])) only [s118, xlen, AV.cells, splice, aload, astore, Nat.reduceAdd, Nat.reduceLeDiff, reduceIte, allB, hb2, hlen, hone, List.append_nil, ht]
 exact W_some.2 (PostE.ret hx ((p1.mut _).trans m2) hx2.rd (Nat.le_refl _) he2 (Nat.lt_succ_self _) _)
theorem length_spec {n : Nat} (ih : SingleOk n) {H : AHeap} {r : Nat} {T : List Tok} {tv lv : AV} {s : St} (hx : Rx H r T tv lv s) (hlv : lv ≠ .nilSl) {e : Ex} {s' : St} (h : singleF T n [40] [41] (goS s) = some (e, s')) : W (evw P 116 [.ptr r 0 0] H) (PostE H r T tv lv (.mk { kind := 10, pos := (tokAt T s.at_).pos } [e]) s') := by
 refine W_of (fun _ => run116 0) ?_
 have hl := hx.rd.lt
 have ho1 := hx.tk.one
 have ho2 := hx.lv.one
 simp -implicitDefEqProofs (disch := first | assumption | omega | (simp only [nxB]; omega) | (simp only [oneB])) only [s116, xlen, AV.cells, splice, aload, astore, Nat.reduceAdd, Nat.reduceLeDiff, reduceIte, allB]
 refine W_call (tok_spec (hx.rd.pur (Pur.push _ _)) (hx.tk.pur (Pur.push _ _))) ?_
 rintro _ H2 ⟨rfl, p2⟩
 refine ⟨p2.1, ?_⟩
 have hn2 := p2.1
 simp only [AHeap.next_push] at hn2
 have mb := ((Pur.push H _).trans p2).mut (· = r)
 have hrd2 := hx.rd.pur ((Pur.push H _).trans p2)
 have hr2 := hrd2
 unfold Rd at hr2
 have hb2 := p2.get (AHeap.get_push_same H _)
 obtain ⟨m3, hd3⟩ := fail_set hrd2 (goS s)
 simp -implicitDefEqProofs (disch := first | assumption | omega | (simp only [nxB]; omega) | (simp only [oneB])) only [s116, xlen, AV.cells, splice, aload, astore, Nat.reduceAdd, Nat.reduceLeDiff, reduceIte, allB, Tok.v, hr2, ho1, ho2]
 refine W_call (ih (hx.mut (mb.trans m3) hd3) hlv [40] [41] e s' h) ?_
 rintro v H4 ⟨m4, hx4, he4⟩
 refine ⟨m4.1, ?_⟩
 have hb4 := m4.get (m3.get hb2 (by omega)) (by omega)
 have hl4 := AHeap.get_lt hb4
 have hm4 := m4.1
 simp only [AHeap.next_set] at hm4 he4
 replace mb := (mb.trans m3).trans m4
 obtain ⟨cs, rfl, hlen, hone⟩ := he4.cells
 have hs : ∀ l, sliceOf P l 35 1 [(0, .agg cs)] = some (.sl l 0 1 11 (some 1), .row false 11 [cs]) := fun l => sl35_1 l cs hlen hone
 have hr2 := hx4.rd
 unfold Rd at hr2
 simp -implicitDefEqProofs (disch := first | assumption | omega | (simp only [nxB]; omega) | (simp only [oneB])) only [s116, xlen, AV.cells, splice, aload, astore, Nat.reduceAdd, Nat.reduceLeDiff, reduceIte, allB, hb4, hs]
 refine W_some.2 ?_
 refine PostL.fin (ok := Ge H.next) (a := { kind := 10, pos := (tokAt T s.at_).pos }) (kv := .sl H4.next 0 1 11 (some 1)) (s' := s') hx ?_ ?_ (KsV.one_at (ro := false) ?_ (by unfold Ge; omega) (he4.new ?_ fun l h => by unfold Ge; omega))
 ·(repeat (first | exact mb | refine Mut.then_push ?_ _ | refine Mut.then_set (S := (· = r)) ?_ (.inl rfl) _ | refine Mut.then_set ?_ (.inr (by (first | omega | (simp only [AHeap.next_push, AHeap.next_set]; omega)))) _))
 ·(unfold Rd; simp -implicitDefEqProofs (disch := first | assumption | omega | (simp only [nxB]; omega) | (simp only [oneB])) only [heapB, hr2, goS, outS])
 ·simp -implicitDefEqProofs (disch := first | assumption | omega | (simp only [nxB]; omega) | (simp only [oneB])) only [heapB]
 ·exact Mut.then_set (S := fun l => l < _) ((Mut.refl _ _).then_push _) (.inl (by omega)) _
theorem item_spec {n : Nat} (ih : SingleOk n) {ok : Nat → Prop} {H : AHeap} {r : Nat} {T : List Tok} {tv lv : AV} {s : St} {e : Ex} {v : AV} (hx : Rx H r T tv lv s) (hlv : lv ≠ .nilSl) (he : ExV H ok e v) (hlo : ¬ ok r) (hlo' : ∀ l, H.next ≤ l → ok l) {e2 : Ex} {s' : St} (h : singleF T n [91] [93] s = some (e2, s')) : W (evw P 111 [.ptr r 0 0, v] H) (PostL ok H r T tv lv (.mk { kind := 6, pos := (tokAt T s.at_).pos } [e, e2]) s') := by
 refine W_of (fun _ => run111 0) ?_
 obtain ⟨cs, rfl, hlen, hone⟩ := he.cells
 have hl := hx.rd.lt
 have ht : List.take 11 cs = cs := List.take_of_length_le (by omega)
 have hbx : ∀ l, boxOf l (.agg cs) = some (.ptr l 0 0, .row false 11 [cs]) := fun l => by rw [boxOf_agg l cs hone, hlen]
 simp -implicitDefEqProofs (disch := first | assumption | omega | (simp only [nxB]; omega) | (simp only [oneB])) only [s111, xlen, AV.cells, splice, aload, astore, Nat.reduceAdd, Nat.reduceLeDiff, reduceIte, allB, hbx]
 have p1 := (Pur.push H (.row false 11 [cs])).then_push (.row false 11 [[.int .i64 0, .int .i64 0, .str [], .str [], .int .i64 0, .nilSl, .int .i64 0, .int .i64 0, .int .i64 0, .int .i64 0, .int .i64 0]])
 refine W_call (tok_spec (hx.rd.pur p1) (hx.tk.pur p1)) ?_
 rintro _ H2 ⟨rfl, p2⟩
 refine ⟨p2.1, ?_⟩
 have hn2 := p2.1
 simp only [AHeap.next_push] at hn2
 have hx2 := hx.pur (p1.trans p2)
 have mb := (p1.trans p2).mut (· = r)
 have h3 : H2.get H.next = some (.row false 11 [cs]) := by rw [p2.2 _ (by simp only [AHeap.next_push]; omega)]; simp -implicitDefEqProofs (disch := first | assumption | omega | (simp only [nxB]; omega) | (simp only [oneB])) only [heapB]
 have h4 : H2.get (H.next + 1) = some (.row false 11 [[.int .i64 0, .int .i64 0, .str [], .str [], .int .i64 0, .nilSl, .int .i64 0, .int .i64 0, .int .i64 0, .int .i64 0, .int .i64 0]]) := by rw [p2.2 _ (by simp only [AHeap.next_push]; omega)]; simp -implicitDefEqProofs (disch := first | assumption | omega | (simp only [nxB]; omega) | (simp only [oneB])) only [heapB]
 simp -implicitDefEqProofs (disch := first | assumption | omega | (simp only [nxB]; omega) | (simp only [oneB])) only [s111, xlen, AV.cells, splice, aload, astore, Nat.reduceAdd, Nat.reduceLeDiff, reduceIte, allB, Tok.v]
 refine W_call (ih hx2 hlv [91] [93] e2 s' h) ?_
 rintro v H4 ⟨m4, hx4, he4⟩
 refine ⟨m4.1, ?_⟩
 have h34 := m4.get h3 (by omega)
 have h44 := m4.get h4 (by omega)
 have hl4 := AHeap.get_lt h44
 have hm4 := m4.1
 replace mb := mb.trans m4
 obtain ⟨ds, rfl, hlen', hone'⟩ := he4.cells
 have hs : ∀ l, sliceOf P l 35 2 [(0, .agg cs), (1, .agg ds)] = some (.sl l 0 2 11 (some 2), .row false 11 [cs, ds]) := fun l => sl35_2 l cs ds hlen hone hlen' hone'
 have hr2 := hx4.rd
 unfold Rd at hr2
 have hq := he.same
 simp -implicitDefEqProofs (disch := first | assumption | omega | (simp only [nxB]; omega) | (simp only [oneB])) only [s111, xlen, AV.cells, splice, aload, astore, Nat.reduceAdd, Nat.reduceLeDiff, reduceIte, allB, h34, h44, h3, hs, ht, hq, Bool.and_true]
 refine W_some.2 ?_
 refine PostL.fin (a := { kind := 6, pos := (tokAt T s.at_).pos }) (kv := .sl H4.next 0 2 11 (some 2)) (s' := s') hx ?_ ?_ (KsV.two_at (ro := false) ?_ (hlo' _ (by omega)) (he.mut (r := r) ?_ hlo fun _ h => h) (he4.new ?_ fun l h => hlo' _ (by omega)))
 ·(repeat (first | exact mb | refine Mut.then_push ?_ _ | refine Mut.then_set (S := (· = r)) ?_ (.inl rfl) _ | refine Mut.then_set ?_ (.inr (by (first | omega | (simp only [AHeap.next_push, AHeap.next_set]; omega)))) _))
 ·(unfold Rd; simp -implicitDefEqProofs (disch := first | assumption | omega | (simp only [nxB]; omega) | (simp only [oneB])) only [heapB, hr2, goS, outS])
 ·simp -implicitDefEqProofs (disch := first | assumption | omega | (simp only [nxB]; omega) | (simp only [oneB])) only [heapB]
 ·(repeat (first | exact mb | refine Mut.then_push ?_ _ | refine Mut.then_set (S := (· = r)) ?_ (.inl rfl) _ | refine Mut.then_set ?_ (.inr (by (first | omega | (simp only [AHeap.next_push, AHeap.next_set]; omega)))) _))
 ·exact Mut.then_set (S := fun l => l < _) ((Mut.refl _ _).then_push _) (.inl (by omega)) _
end Go.Proofs.Ytnjoomfeddamcaa

namespace Go.Proofs.Ytnjoomfeddamcaa
open Go.Ev
theorem ElsV.append {H : AHeap} {ok : Nat → Prop} : ∀ (es : List Ex) (cs : List (List AV)) (e : Ex) (c : List AV), ElsV H ok es cs → cs.length = es.length → ExV H ok e (.agg c) → ElsV H ok (es ++ [e]) (cs ++ [c])
 | [], [], e, c, _, _, h => by
  simp only [List.nil_append]
  rw [ElsV, ElsV]; exact ⟨h, trivial⟩
 | [], _ :: _, e, c, _, hl, _ => by simp at hl
 | _ :: _, [], e, c, h, _, _ => by rw [ElsV] at h; exact h.elim
 | e1 :: es, c1 :: cs, e, c, h, hl, he => by
  rw [ElsV] at h
  simp only [List.cons_append]
  rw [ElsV]
  exact ⟨h.1, ElsV.append es cs e c h.2 (by simpa using hl) he⟩
theorem un35 : P.underlying 35 = some (.slice 39) := by kernel_rfl
theorem by39 : tyBytes P 39 = some 120 := by kernel_rfl
theorem az39 : azero P 39 = some (.agg [.int .i64 0, .int .i64 0, .str [], .str [], .int .i64 0, .nilSl, .int .i64 0, .int .i64 0, .int .i64 0, .int .i64 0, .int .i64 0]) := by kernel_rfl
theorem ap35_nil {H : AHeap} {L : Nat} {cs : List AV} {cap : Option Nat} {ro : Bool} (hg : H.get L = some (.row ro 11 [cs])) : aappend P H [35, 35] .nilSl (.sl L 0 1 11 cap) = some (.sl H.next 0 1 11 none, H.push (.row false 11 [cs])) := by
 simp [aappend, un35, ts39, by39, az39, anews, aels, hg, AV.cells]
theorem ap35_sl {H : AHeap} {L l n : Nat} {cs : List AV} {els : List (List AV)} {cap : Option Nat} {ro : Bool} (hg : H.get L = some (.row ro 11 [cs])) (hl : H.get l = some (.row false 11 els)) (hn : els.length = n) (hb : n ≤ 1000000000) : aappend P H [35, 35] (.sl l 0 n 11 none) (.sl L 0 1 11 cap) = some (.sl H.next 0 (n + 1) 11 none, (H.set l .dead).push (.row false 11 (els ++ [cs]))) := by
 have h1 : (n + 1) * 120 ≤ 140737488355328 := by omega
 have h2 : n + 1 ≤ 9223372036854775807 := by omega
 simp [aappend, un35, ts39, by39, az39, anews, aels, hg, hl, AV.cells, hn, h1, h2]
 rw [List.take_of_length_le (by omega)]
theorem fresh_step {n : Nat} (ih : SingleOk n) : FreshOk (n + 1) := by
 intro H r T tv lv s hx hlv e s' h
 refine W_of (fun _ => run115 0) ?_
 have hl := hx.rd.lt
 have ho1 := hx.tk.one
 have ho2 := hx.lv.one
 simp -implicitDefEqProofs (disch := first | assumption | omega | (simp only [nxB]; omega) | (simp only [oneB])) only [s115_j0, s115, xlen, AV.cells, splice, aload, astore, Nat.reduceAdd, Nat.reduceLeDiff, reduceIte, allB]
 refine W_call (tok_spec (hx.rd.pur (Pur.push _ _)) (hx.tk.pur (Pur.push _ _))) ?_
 rintro _ H2 ⟨rfl, p2⟩
 refine ⟨p2.1, ?_⟩
 have hn2 := p2.1
 simp only [AHeap.next_push] at hn2
 have mb := ((Pur.push H _).trans p2).mut (· = r)
 have hrd2 := hx.rd.pur ((Pur.push H _).trans p2)
 have hr2 := hrd2
 unfold Rd at hr2
 have hb2 := p2.get (AHeap.get_push_same H _)
 obtain ⟨m3, hd3⟩ := fail_set hrd2 (goS s)
 simp -implicitDefEqProofs (disch := first | assumption | omega | (simp only [nxB]; omega) | (simp only [oneB])) only [s115, xlen, AV.cells, splice, aload, astore, Nat.reduceAdd, Nat.reduceLeDiff, reduceIte, allB, Tok.v, hr2, ho1, ho2]
 have hx3 := hx.mut (mb.trans m3) hd3
 refine W_call (takes_spec hx3 4 [91]) ?_
 rintro _ H4 ⟨rfl, m4, hx4⟩
 refine ⟨m4.1, ?_⟩
 have hb4 := m4.get (m3.get hb2 (by omega)) (by omega)
 have hl4 := AHeap.get_lt hb4
 have hm4 := m4.1
 simp only [AHeap.next_set] at hm4
 replace mb := (mb.trans m3).trans m4
 simp only [freshF] at h
 cases hi : isB T (goS s) 4 [91] with
 | true =>
  simp only [takesS, hi, cond_true] at hx4 ⊢
  simp only [hi, cond_true, Option.bind_eq_some_iff] at h
  obtain ⟨⟨e1, s1⟩, h1, h2⟩ := h
  simp only [Option.some.injEq, Prod.mk.injEq] at h2
  obtain ⟨rfl, rfl⟩ := h2
  simp -implicitDefEqProofs (disch := first | assumption | omega | (simp only [nxB]; omega) | (simp only [oneB])) only [s115, xlen, AV.cells, splice, aload, astore, Nat.reduceAdd, Nat.reduceLeDiff, reduceIte, allB]
  refine W_call (of_spec hx4) ?_
  rintro _ H5 ⟨rfl, m5, hx5⟩
  refine ⟨m5.1, ?_⟩
  have hb5 := m5.get hb4 (by omega)
  have hl5 := AHeap.get_lt hb5
  simp -implicitDefEqProofs (disch := first | assumption | omega | (simp only [nxB]; omega) | (simp only [oneB])) only [s115, xlen, AV.cells, splice, aload, astore, Nat.reduceAdd, Nat.reduceLeDiff, reduceIte, allB]
  have p6 := Pur.push H5 (.row false 2 [[.str (ofS T (goS (goS s))).1.1, .int .i64 (ofS T (goS (goS s))).1.2]])
  have hq6 := AHeap.get_push_same H5 (.row false 2 [[.str (ofS T (goS (goS s))).1.1, .int .i64 (ofS T (goS (goS s))).1.2]])
  refine W_call (wants_spec (hx5.pur p6) [93]) ?_
  rintro _ H8 ⟨rfl, m8, hx8⟩
  refine ⟨m8.1, ?_⟩
  have hb8 := m8.get (p6.get hb5) (by omega)
  have hq8 := m8.get hq6 (by omega)
  have hl8 := AHeap.get_lt hb8
  have hlq8 := AHeap.get_lt hq8
  simp -implicitDefEqProofs (disch := first | assumption | omega | (simp only [nxB]; omega) | (simp only [oneB])) only [s115, xlen, AV.cells, splice, aload, astore, Nat.reduceAdd, Nat.reduceLeDiff, reduceIte, allB]
  refine W_call (ih hx8 hlv [40] [41] e1 s1 h1) ?_
  rintro v H9 ⟨m9, hx9, he9⟩
  refine ⟨m9.1, ?_⟩
  have hb9 := m9.get hb8 (by omega)
  have hq9 := m9.get hq8 (by omega)
  have hl9 := AHeap.get_lt hb9
  have hlq9 := AHeap.get_lt hq9
  have hm9 := m9.1
  obtain ⟨cs, rfl, hlen, hone⟩ := he9.cells
  have hs : ∀ l, sliceOf P l 35 1 [(0, .agg cs)] = some (.sl l 0 1 11 (some 1), .row false 11 [cs]) := fun l => sl35_1 l cs hlen hone
  replace mb := (((mb.trans m5).trans (p6.mut _)).trans m8).trans m9
  have hr2 := hx9.rd
  unfold Rd at hr2
  simp -implicitDefEqProofs (disch := first | assumption | omega | (simp only [nxB]; omega) | (simp only [oneB])) only [s115, xlen, AV.cells, splice, aload, astore, Nat.reduceAdd, Nat.reduceLeDiff, reduceIte, allB, hs, hb9, hq9, hq8]
  refine W_some.2 ?_
  refine PostL.fin (ok := Ge H.next) (a := { kind := 9, ofn := (ofS T (goS (goS s))).1.1, ofd := (ofS T (goS (goS s))).1.2, pos := (tokAt T s.at_).pos }) (kv := .sl H9.next 0 1 11 (some 1)) (s' := s1) hx ?_ ?_ (KsV.one_at (ro := false) ?_ (by unfold Ge; omega) (he9.new ?_ fun l h => by unfold Ge; omega))
  ·(repeat (first | exact mb | refine Mut.then_push ?_ _ | refine Mut.then_set (S := (· = r)) ?_ (.inl rfl) _ | refine Mut.then_set ?_ (.inr (by (first | omega | (simp only [AHeap.next_push, AHeap.next_set]; omega)))) _))
  ·(unfold Rd; simp -implicitDefEqProofs (disch := first | assumption | omega | (simp only [nxB]; omega) | (simp only [oneB])) only [heapB, hr2, goS, outS])
  ·simp -implicitDefEqProofs (disch := first | assumption | omega | (simp only [nxB]; omega) | (simp only [oneB])) only [heapB]
  ·exact Mut.then_set (S := fun l => l < _) ((Mut.refl _ _).then_push _) (.inl (by omega)) _
 | false =>
  simp only [takesS, hi, cond_false] at hx4 ⊢
  simp only [hi, cond_false, Option.some.injEq, Prod.mk.injEq] at h
  obtain ⟨rfl, rfl⟩ := h
  simp -implicitDefEqProofs (disch := first | assumption | omega | (simp only [nxB]; omega) | (simp only [oneB])) only [s115, xlen, AV.cells, splice, aload, astore, Nat.reduceAdd, Nat.reduceLeDiff, reduceIte, allB]
  refine W_call (tok_spec hx4.rd hx4.tk) ?_
  rintro _ H5 ⟨rfl, p5⟩
  refine ⟨p5.1, ?_⟩
  have hb5 := p5.get hb4
  have hx5 := hx4.pur p5
  have hl5 := AHeap.get_lt hb5
  have p6 := Pur.push H5 (.row false 4 [[.int .i64 (tokAt T (goS s).at_).kind, .str (tokAt T (goS s).at_).text, .int .i64 (tokAt T (goS s).at_).n, .int .i64 (tokAt T (goS s).at_).pos]])
  have hq6 := AHeap.get_push_same H5 (.row false 4 [[.int .i64 (tokAt T (goS s).at_).kind, .str (tokAt T (goS s).at_).text, .int .i64 (tokAt T (goS s).at_).n, .int .i64 (tokAt T (goS s).at_).pos]])
  have fin : ∀ (H7 : AHeap) (s7 : St), Mt r H H7 → Rd H7 r tv lv s7 → H7.get H.next = some (.row false 11 [[.int .i64 0, .int .i64 0, .str [], .str [], .int .i64 0, .nilSl, .int .i64 0, .int .i64 0, .int .i64 0, .int .i64 0, .int .i64 0]]) → H7.get H5.next = some (.row false 4 [[.int .i64 (tokAt T (goS s).at_).kind, .str (tokAt T (goS s).at_).text, .int .i64 (tokAt T (goS s).at_).n, .int .i64 (tokAt T (goS s).at_).pos]]) →
    W (s115_j0 (evw P) (.ptr r 0 0) (.ptr H.next 0 0) (.int .i64 (tokAt T s.at_).pos) (.ptr H5.next 0 0) H7) (PostE H r T tv lv (.mk { kind := 8, ofn := (tokAt T (goS s).at_).text, pos := (tokAt T s.at_).pos } []) (goS s7)) := by
   intro H7 s7 mb hrd7 hb7 hq7
   have hr2 := hrd7
   unfold Rd at hr2
   have hlr := hrd7.lt
   have hl7 := AHeap.get_lt hb7
   have hlq7 := AHeap.get_lt hq7
   simp -implicitDefEqProofs (disch := first | assumption | omega | (simp only [nxB]; omega) | (simp only [oneB])) only [s115_j0, s115, xlen, AV.cells, splice, aload, astore, Nat.reduceAdd, Nat.reduceLeDiff, reduceIte, allB, hr2, ho1, ho2, hb7, hq7]
   refine W_some.2 ?_
   refine PostE.box (a := { kind := 8, ofn := (tokAt T (goS s).at_).text, pos := (tokAt T s.at_).pos }) (kv := .nilSl) (s' := goS s7) (lo := H.next + 1) hx ?_ ?_ (Nat.le_refl _) (Nat.lt_succ_self _) (KsV.nil _ _) _
   ·(repeat (first | exact mb | refine Mut.then_push ?_ _ | refine Mut.then_set (S := (· = r)) ?_ (.inl rfl) _ | refine Mut.then_set ?_ (.inr (by (first | omega | (simp only [AHeap.next_push, AHeap.next_set]; omega)))) _))
   ·(unfold Rd; simp -implicitDefEqProofs (disch := first | assumption | omega | (simp only [nxB]; omega) | (simp only [oneB])) only [heapB, hr2, goS, outS])
  by_cases hk : (tokAt T (goS s).at_).kind = 1
  ·have hk' : ((tokAt T (goS s).at_).kind != 1) = false := by simpa using hk
   simp -implicitDefEqProofs (disch := first | assumption | omega | (simp only [nxB]; omega) | (simp only [oneB])) only [s115, xlen, AV.cells, splice, aload, astore, Nat.reduceAdd, Nat.reduceLeDiff, reduceIte, allB, Tok.v, hk']
   exact fin _ _ ((mb.trans (p5.mut _)).trans (p6.mut _)) (hx5.rd.pur p6) (p6.get hb5) hq6
  ·have hk' : ((tokAt T (goS s).at_).kind != 1) = true := by simpa using hk
   simp -implicitDefEqProofs (disch := first | assumption | omega | (simp only [nxB]; omega) | (simp only [oneB])) only [s115, xlen, AV.cells, splice, aload, astore, Nat.reduceAdd, Nat.reduceLeDiff, reduceIte, allB, Tok.v, hk']
   refine W_call (fail_spec (hx5.pur p6) 2) ?_
   rintro _ H8 ⟨rfl, m8, hx8⟩
   refine ⟨m8.1, ?_⟩
   try simp only [s115]
   exact fin _ _ (((mb.trans (p5.mut _)).trans (p6.mut _)).trans m8) hx8.rd (m8.get (p6.get hb5) (by omega)) (m8.get hq6 (by omega))
end Go.Proofs.Ytnjoomfeddamcaa

namespace Go.Proofs.Ytnjoomfeddamcaa
open Go.Ev
theorem xapply_fn (call : CallT) (H : AHeap) (f : Nat) (a c vs : List AV) (k : AV → AHeap → O) : xapply call H (.func (.func f) a c) vs k = xcall H (call f (a ++ vs ++ c) H) k := rfl
theorem list_end {n : Nat} {H0 H : AHeap} {r : Nat} {T : List Tok} {tv lv : AV} {s0 s : St} (hx0 : Rx H0 r T tv lv s0) (mb : Mt r H0 H) (hrd : Rd H r tv lv s) {l : List Ex} {v : AV} (hk : KsV H (Ge H0.next) l v) :
  W (s112_j0 (evw P) n (.ptr r 0 0) v H) fun v H' => Mt r H0 H' ∧ Rx H' r T tv lv (closesS T [41] s).2 ∧ KsV H' (Ge H0.next) l v := by
 have hl := hx0.rd.lt
 rw [s112_j0]
 refine W_call (closes_spec (hx0.mut mb hrd) [41]) ?_
 rintro _ H1 ⟨rfl, m1, hx1⟩
 refine ⟨m1.1, ?_⟩
 try simp only [s112_b1, s112]
 exact W_some.2 ⟨mb.trans m1, hx1, hk.keep (Keep.mut m1 (by unfold Ge; omega) fun _ h => h)⟩
theorem list_loop {N : Nat} (ih : ∀ k, k < N → RowOk k) {H0 : AHeap} {r : Nat} {T : List Tok} {tv lv : AV} {s0 : St} (hx0 : Rx H0 r T tv lv s0) (hlv : lv ≠ .nilSl) :
  ∀ (n m : Nat), n < N → n < m → ∀ (H : AHeap) (s : St) (l : List Ex) (L : Nat) (els : List (List AV)), Mt r H0 H → Rd H r tv lv s → l.length + n ≤ 1000000000 → H.get L = some (.row false 11 els) → H0.next ≤ L → els.length = l.length →
   ElsV H (fun k => H0.next ≤ k ∧ k ≠ L) l els → ∀ (l' : List Ex) (s' : St), listL T n l s = some (l', s') →
   W (s112_l1 (evw P) N m (.ptr r 0 0) (.func (.func 41) [.ptr r 0 0] []) (.sl L 0 l.length 11 none) H) fun v H' => Mt r H0 H' ∧ Rx H' r T tv lv s' ∧ KsV H' (Ge H0.next) l' v
 | 0, m, hN, hm, H, s, l, L, els, mb, hrd, hlen, hg, hL, hel, hev, l', s', h => by simp [listL] at h
 | n + 1, 0, hN, hm, H, s, l, L, els, mb, hrd, hlen, hg, hL, hel, hev, l', s', h => by omega
 | n + 1, m + 1, hN, hm, H, s, l, L, els, mb, hrd, hlen, hg, hL, hel, hev, l', s', h => by
  have hl := hx0.rd.lt
  have hlL := AHeap.get_lt hg
  have hle := mb.1
  simp only [listL] at h
  simp only [s112_l1]
  rw [s112_b1]
  refine W_call (takes_spec (hx0.mut mb hrd) 4 [44]) ?_
  rintro _ H1 ⟨rfl, m1, hx1⟩
  refine ⟨m1.1, ?_⟩
  have hg1 := m1.get hg (by omega)
  have hlL1 := AHeap.get_lt hg1
  have hev1 := hev.keep (Keep.mut m1 (by omega) fun _ h => h) l els
  cases ht : (takesS T 4 [44] s).1 with
  | false =>
   simp only [ht, cond_false, Option.some.injEq, Prod.mk.injEq] at h
   obtain ⟨rfl, rfl⟩ := h
   simp -implicitDefEqProofs (disch := first | assumption | omega | (simp only [nxB]; omega) | (simp only [oneB])) only [s112_b1, s112, xlen, AV.cells, splice, aload, astore, Nat.reduceAdd, Nat.reduceLeDiff, reduceIte, allB]
   refine list_end hx0 (mb.trans m1) hx1.rd (.inr (.inl ⟨L, 0, none, false, els, rfl, hL, hg1, ?_⟩))
   rw [List.drop_zero]
   exact hev1.keep (Keep.le' fun _ h => h.1) l els
  | true =>
   simp only [ht, cond_true, Option.bind_eq_some_iff] at h
   obtain ⟨⟨e1, s1⟩, h1, h2⟩ := h
   simp -implicitDefEqProofs (disch := first | assumption | omega | (simp only [nxB]; omega) | (simp only [oneB])) only [s112_b1, s112, xlen, AV.cells, splice, aload, astore, Nat.reduceAdd, Nat.reduceLeDiff, reduceIte, allB, xapply_fn, List.append_nil]
   refine W_call (whole_spec (ih n (by omega)) hx1 hlv h1) ?_
   rintro v H2 ⟨m2, hx2, he2⟩
   refine ⟨m2.1, ?_⟩
   have hg2 := m2.get hg1 (by omega)
   have hlL2 := AHeap.get_lt hg2
   have hm1 := m1.1
   have hm2 := m2.1
   have hev2 := hev1.keep (Keep.mut m2 (by omega) fun _ h => h) l els
   obtain ⟨cs, rfl, hlen', hone⟩ := he2.cells
   have hs : ∀ l, sliceOf P l 35 1 [(0, .agg cs)] = some (.sl l 0 1 11 (some 1), .row false 11 [cs]) := fun l => sl35_1 l cs hlen' hone
   simp -implicitDefEqProofs (disch := first | assumption | omega | (simp only [nxB]; omega) | (simp only [oneB])) only [s112_b1, s112, xlen, AV.cells, splice, aload, astore, Nat.reduceAdd, Nat.reduceLeDiff, reduceIte, allB, hs]
   have p3 := Pur.push H2 (.row false 11 [cs])
   rw [ap35_sl (AHeap.get_push_same H2 (.row false 11 [cs])) (p3.get hg2) hel (by omega), xcall_some (by simp only [AHeap.next_push, AHeap.next_set]; omega)]
   simp only [AHeap.next_push, AHeap.next_set, s112]
   have hlen2 : l.length + 1 = (l ++ [e1]).length := by simp
   rw [hlen2]
   have gK : ∀ k, k < H2.next → k ≠ L → (((H2.push (.row false 11 [cs])).set L .dead).push (.row false 11 (els ++ [cs]))).get k = H2.get k := fun k hk hk' => by
    rw [AHeap.get_push_other (by simp only [AHeap.next_push, AHeap.next_set]; omega), AHeap.get_set_other (by omega), AHeap.get_push_other (by omega)]
   have mN : Mt r H0 (((H2.push (.row false 11 [cs])).set L .dead).push (.row false 11 (els ++ [cs]))) := (((mb.trans m1).trans m2).then_push _ |>.then_set (.inr hL) _).then_push _
   refine list_loop ih hx0 hlv n m (by omega) (by omega) _ s1 (l ++ [e1]) (H2.next + 1) (els ++ [cs]) mN ?_ (by simp; omega) ?_ (by omega) (by simp [hel]) ?_ l' s' h2
   ·have := hx2.rd
    unfold Rd at this ⊢
    rw [gK r (by omega) (by omega)]; exact this
   ·exact AHeap.get_push_eq (by simp only [AHeap.next_push, AHeap.next_set]; omega) (by simp only [AHeap.next_push, AHeap.next_set]; omega)
   ·refine ElsV.append l els e1 cs ?_ hel ?_
    ·exact hev2.keep (fun k ro es hk hg' => ⟨⟨hk.1, by have := AHeap.get_lt hg'; omega⟩, by rw [gK k (AHeap.get_lt hg') hk.2]; exact hg'⟩) l els
    ·exact he2.keep (fun k ro es hk hg' => by
      have h3 := AHeap.get_lt hg'
      unfold Ge at hk
      exact ⟨⟨by omega, by omega⟩, by rw [gK k h3 (by omega)]; exact hg'⟩) e1 _
theorem list_step {n : Nat} (hn : n ≤ 900000000) (ih : ∀ k, k ≤ n → RowOk k) : ListOk (n + 1) := by
 intro H r T tv lv s hx hlv l s' h
 refine W_of (fun _ => run112 (n + 1)) ?_
 have hl := hx.rd.lt
 simp only [listF] at h
 rw [s112]
 refine W_call (opens_spec hx [40]) ?_
 rintro _ H1 ⟨rfl, m1, hx1⟩
 refine ⟨m1.1, ?_⟩
 cases ho : (opensS T [40] s).1 with
 | false =>
  simp only [ho, cond_false, Option.some.injEq, Prod.mk.injEq] at h
  obtain ⟨rfl, rfl⟩ := h
  simp -implicitDefEqProofs (disch := first | assumption | omega | (simp only [nxB]; omega) | (simp only [oneB])) only [s112_b1, s112, xlen, AV.cells, splice, aload, astore, Nat.reduceAdd, Nat.reduceLeDiff, reduceIte, allB, Bool.not_false]
  exact W_some.2 ⟨m1, hx1, KsV.nil _ _⟩
 | true =>
  simp only [ho, cond_true] at h
  simp -implicitDefEqProofs (disch := first | assumption | omega | (simp only [nxB]; omega) | (simp only [oneB])) only [s112, xlen, AV.cells, splice, aload, astore, Nat.reduceAdd, Nat.reduceLeDiff, reduceIte, allB, Bool.not_true]
  refine W_call (is_spec hx1.rd hx1.tk 4 [41]) ?_
  rintro _ H2 ⟨rfl, p2⟩
  refine ⟨p2.1, ?_⟩
  have hx2 := hx1.pur p2
  have mb := m1.trans (p2.mut _)
  cases hi : isB T (opensS T [40] s).2 4 [41] with
  | true =>
   simp only [hi, cond_true, Option.some.injEq, Prod.mk.injEq] at h
   obtain ⟨rfl, rfl⟩ := h
   simp -implicitDefEqProofs (disch := first | assumption | omega | (simp only [nxB]; omega) | (simp only [oneB])) only [s112, xlen, AV.cells, splice, aload, astore, Nat.reduceAdd, Nat.reduceLeDiff, reduceIte, allB, Bool.not_true]
   exact list_end hx mb hx2.rd (KsV.nil _ _)
  | false =>
   simp only [hi, cond_false, Option.bind_eq_some_iff] at h
   obtain ⟨⟨e1, s1⟩, h1, h2⟩ := h
   simp -implicitDefEqProofs (disch := first | assumption | omega | (simp only [nxB]; omega) | (simp only [oneB])) only [s112, xlen, AV.cells, splice, aload, astore, Nat.reduceAdd, Nat.reduceLeDiff, reduceIte, allB, Bool.not_false, xapply_fn, List.append_nil]
   refine W_call (whole_spec (ih n (Nat.le_refl _)) hx2 hlv h1) ?_
   rintro v H3 ⟨m3, hx3, he3⟩
   refine ⟨m3.1, ?_⟩
   have hm1 := m1.1
   have hm2 := p2.1
   have hm3 := m3.1
   obtain ⟨cs, rfl, hlen', hone⟩ := he3.cells
   have hs : ∀ l, sliceOf P l 35 1 [(0, .agg cs)] = some (.sl l 0 1 11 (some 1), .row false 11 [cs]) := fun l => sl35_1 l cs hlen' hone
   simp -implicitDefEqProofs (disch := first | assumption | omega | (simp only [nxB]; omega) | (simp only [oneB])) only [s112, xlen, AV.cells, splice, aload, astore, Nat.reduceAdd, Nat.reduceLeDiff, reduceIte, allB, hs]
   have p4 := (Pur.push H3 (.row false 11 [cs])).then_push (.row false 11 [cs])
   rw [ap35_nil (AHeap.get_push_same H3 (.row false 11 [cs])), xcall_some (by simp only [AHeap.next_push]; omega)]
   simp only [AHeap.next_push, s112]
   refine list_loop (N := n + 1) (fun k hk => ih k (by omega)) hx hlv n (n + 1) (by omega) (by omega) _ s1 [e1] (H3.next + 1) [cs] ((mb.trans m3).trans (p4.mut _)) (hx3.rd.pur p4) (by simp; omega) ?_ (by omega) rfl ?_ l s' h2
   ·exact AHeap.get_push_eq (by simp only [AHeap.next_push]; omega) (by simp only [AHeap.next_push]; omega)
   ·rw [ElsV, ElsV]
    exact ⟨he3.keep (fun k ro es hk hg' => by
      have h3 := AHeap.get_lt hg'
      unfold Ge at hk
      exact ⟨⟨by omega, by omega⟩, p4.get hg'⟩) e1 _, trivial⟩
theorem name_step {n : Nat} (ih : ListOk n) : NameOk (n + 1) := by
 intro H r T tv lv s hx hlv e s' h
 refine W_of (fun _ => run108 0) ?_
 have hl := hx.rd.lt
 have ho1 := hx.tk.one
 have ho2 := hx.lv.one
 simp -implicitDefEqProofs (disch := first | assumption | omega | (simp only [nxB]; omega) | (simp only [oneB])) only [s108, xlen, AV.cells, splice, aload, astore, Nat.reduceAdd, Nat.reduceLeDiff, reduceIte, allB]
 refine W_call (tok_spec (hx.rd.pur (Pur.push _ _)) (hx.tk.pur (Pur.push _ _))) ?_
 rintro _ H2 ⟨rfl, p2⟩
 refine ⟨p2.1, ?_⟩
 have hn2 := p2.1
 simp only [AHeap.next_push] at hn2
 have mb := ((Pur.push H _).trans p2).mut (· = r)
 have hrd2 := hx.rd.pur ((Pur.push H _).trans p2)
 have hr2 := hrd2
 unfold Rd at hr2
 have hb2 := p2.get (AHeap.get_push_same H _)
 obtain ⟨m3, hd3⟩ := fail_set (hrd2.pur (Pur.push H2 (.row false 4 [[.int .i64 (tokAt T s.at_).kind, .str (tokAt T s.at_).text, .int .i64 (tokAt T s.at_).n, .int .i64 (tokAt T s.at_).pos]]))) (goS s)
 have hq2 := AHeap.get_push_same H2 (.row false 4 [[.int .i64 (tokAt T s.at_).kind, .str (tokAt T s.at_).text, .int .i64 (tokAt T s.at_).n, .int .i64 (tokAt T s.at_).pos]])
 have p25 := Pur.push H2 (.row false 4 [[.int .i64 (tokAt T s.at_).kind, .str (tokAt T s.at_).text, .int .i64 (tokAt T s.at_).n, .int .i64 (tokAt T s.at_).pos]])
 replace mb := mb.trans (p25.mut _)
 simp -implicitDefEqProofs (disch := first | assumption | omega | (simp only [nxB]; omega) | (simp only [oneB])) only [s108, xlen, AV.cells, splice, aload, astore, Nat.reduceAdd, Nat.reduceLeDiff, reduceIte, allB, Tok.v, hr2, ho1, ho2]
 have hx3 := hx.mut (mb.trans m3) hd3
 refine W_call (is_spec hx3.rd hx3.tk 4 [40]) ?_
 rintro _ H4 ⟨rfl, p4⟩
 refine ⟨p4.1, ?_⟩
 have hb4 := p4.get (m3.get (p25.get hb2) (by omega))
 have hq4 := p4.get (m3.get hq2 (by omega))
 have hl4 := AHeap.get_lt hb4
 have hlq4 := AHeap.get_lt hq4
 have hx4 := hx3.pur p4
 replace mb := (mb.trans m3).trans (p4.mut _)
 simp only [nameF] at h
 cases hi : isB T (goS s) 4 [40] with
 | false =>
  simp only [hi, cond_false, Option.some.injEq, Prod.mk.injEq] at h
  obtain ⟨rfl, rfl⟩ := h
  simp -implicitDefEqProofs (disch := first | assumption | omega | (simp only [nxB]; omega) | (simp only [oneB])) only [s108, xlen, AV.cells, splice, aload, astore, Nat.reduceAdd, Nat.reduceLeDiff, reduceIte, allB, Bool.not_false, hb4, hq4]
  refine W_some.2 ?_
  exact PostE.box (a := { kind := 4, name := (tokAt T s.at_).text, pos := (tokAt T s.at_).pos }) (kv := .nilSl) (lo := H.next + 1) hx mb hx4.rd (Nat.le_refl _) (Nat.lt_succ_self _) (KsV.nil _ _) _
 | true =>
  simp only [hi, cond_true, Option.bind_eq_some_iff] at h
  obtain ⟨⟨l1, s1⟩, h1, h2⟩ := h
  simp only [Option.some.injEq, Prod.mk.injEq] at h2
  obtain ⟨rfl, rfl⟩ := h2
  simp -implicitDefEqProofs (disch := first | assumption | omega | (simp only [nxB]; omega) | (simp only [oneB])) only [s108, xlen, AV.cells, splice, aload, astore, Nat.reduceAdd, Nat.reduceLeDiff, reduceIte, allB, Bool.not_true]
  refine W_call (ih hx4 hlv l1 s1 h1) ?_
  rintro v H5 ⟨m5, hx5, hk5⟩
  refine ⟨m5.1, ?_⟩
  have hb5 := m5.get hb4 (by omega)
  have hq5 := m5.get hq4 (by omega)
  have hl5 := AHeap.get_lt hb5
  have hlq5 := AHeap.get_lt hq5
  replace mb := mb.trans m5
  have hfin : ∀ kv : AV, KsV H5 (Ge H4.next) l1 kv → PostE H r T tv lv (.mk { kind := 7, name := (tokAt T s.at_).text, pos := (tokAt T s.at_).pos } l1) s1 (.agg (Ea.cells { kind := 7, name := (tokAt T s.at_).text, pos := (tokAt T s.at_).pos } kv)) (H5.set H.next (.row false 11 [Ea.cells { kind := 7, name := (tokAt T s.at_).text, pos := (tokAt T s.at_).pos } kv])) := fun kv hk =>
   PostE.box (lo := H4.next) hx mb hx5.rd (Nat.le_refl _) (by omega) hk _
  have hk5' := hk5
  rcases hk5 with ⟨rfl, _⟩ | ⟨L, i, cap, ro, els, rfl, _⟩ | ⟨L, i, cap, rfl, _⟩
  ·simp -implicitDefEqProofs (disch := first | assumption | omega | (simp only [nxB]; omega) | (simp only [oneB])) only [s108, xlen, AV.cells, splice, aload, astore, Nat.reduceAdd, Nat.reduceLeDiff, reduceIte, allB, hb5, hq5, hq4]
   exact W_some.2 (hfin _ hk5')
  ·simp -implicitDefEqProofs (disch := first | assumption | omega | (simp only [nxB]; omega) | (simp only [oneB])) only [s108, xlen, AV.cells, splice, aload, astore, Nat.reduceAdd, Nat.reduceLeDiff, reduceIte, allB, hb5, hq5, hq4]
   exact W_some.2 (hfin _ hk5')
  ·simp -implicitDefEqProofs (disch := first | assumption | omega | (simp only [nxB]; omega) | (simp only [oneB])) only [s108, xlen, AV.cells, splice, aload, astore, Nat.reduceAdd, Nat.reduceLeDiff, reduceIte, allB, hb5, hq5, hq4]
   exact W_some.2 (hfin _ hk5')
end Go.Proofs.Ytnjoomfeddamcaa

