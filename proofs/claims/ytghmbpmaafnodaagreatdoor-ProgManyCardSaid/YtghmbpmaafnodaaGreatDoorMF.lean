/-
  Texts of one proof, laid together: Z9 Z10 Z11 ShB.
-/
import Derived.Test.YtghmbpmaafnodaaGreatDoorME
import Derived.Test.YtghmbpmaafnodaaGreatDoorMD
set_option linter.unusedVariables false
set_option linter.unusedSimpArgs false
namespace Go.Proofs.YtghmbpmaafnodaaGreatDoor
open Go.Ev
theorem field_same {T : List Tok} {s : St} (hf : s.fe = 0) (e : Ex) : Same (fieldS T e s) (Ex.mk { kind := 5, name := (nameR T (goS s)).1, pos := (tokAt T s.at_).pos } [e], (nameR T (goS s)).2) := by
 have hg : (goS s).fe = 0 := hf
 by_cases hk : (tokAt T (goS s).at_).kind = 1
 ·refine Or.inl ⟨?_, ?_⟩
  ·have hb : ((tokAt T (goS s).at_).kind != 1) = false := by simp [hk]
   simp only [fieldS, hb, cond_false]; exact hf
  ·simp [fieldS, nameR, hk, hg]
 ·have hb : ((tokAt T (goS s).at_).kind == 1) = false := by simpa using hk
  have hb' : ((tokAt T (goS s).at_).kind != 1) = true := by simpa using hk
  have h2 := failS_fe (T := T) hg 2
  refine Or.inr ⟨?_, ?_, ?_⟩
  ·simp only [fieldS, hb', cond_true]; show (failS T 2 (goS s)).fe ≠ 0; rw [h2.1]; decide
  ·simp only [fieldS, nameR, hb, hb', cond_true, Bool.and_false, cond_false]; rfl
  ·simp only [fieldS, nameR, hb, hb', cond_true, Bool.and_false, cond_false]; rfl
theorem left_field {T : List Tok} (hT : T.length ≤ 40000000) {s : St} (hf : s.fe = 0) (hk : (tokAt T s.at_).kind ≠ 0) (e : Ex) : left T (fieldS T e s).2 + 1 ≤ left T s := by
 have hg := left_go hT hf hk
 have hf' : (goS s).fe = 0 := hf
 by_cases hk' : (tokAt T (goS s).at_).kind = 1
 ·have hb : ((tokAt T (goS s).at_).kind != 1) = false := by simp [hk']
  have := left_go hT hf' (by rw [hk']; decide)
  simp only [fieldS, hb, cond_false]
  omega
 ·have hb : ((tokAt T (goS s).at_).kind != 1) = true := by simpa using hk'
  have h2 : (goS (failS T 2 (goS s))).fe ≠ 0 := by show (failS T 2 (goS s)).fe ≠ 0; rw [(failS_fe hf' 2).1]; decide
  simp only [fieldS, hb, cond_true, left_failed h2]
  omega
theorem chain_both {T : List Tok} (hT : T.length ≤ 40000000) {k : Nat} (ih : ∀ j, j < k → RowB T j) : ∀ (c n n' : Nat) (s s' : St) (e e' : Ex), left T s ≤ c → c ≤ k → 30 * c + 12 ≤ n → 30 * c + 12 ≤ n' → SameS s s' → (s.fe = 0 → e' = e) → Both T s (chainL T n e s) (behindR T n' e' s')
 | c, 0, n', s, s', e, e', h1, h2, h3, h3', h4, h5 => by omega
 | c, n + 1, 0, s, s', e, e', h1, h2, h3, h3', h4, h5 => by omega
 | c, n + 1, n' + 1, s, s', e, e', h1, h2, h3, h3', h4, h5 => by
  by_cases hf : s.fe = 0
  ·obtain ⟨_, rfl⟩ : s.fe = 0 ∧ s' = s := h4.resolve_right (by rintro ⟨h, _⟩; exact h hf)
   cases h5 hf
   have hb : (s'.fe == 0) = true := by simpa using hf
   have e1 : isR T s' [46] = ((tokAt T s'.at_).kind == 4 && (tokAt T s'.at_).text == [46]) := by show isB T s' 4 [46] = _; simp only [isB, hb, Bool.true_and]
   have e2 : isR T s' [91] = ((tokAt T s'.at_).kind == 4 && (tokAt T s'.at_).text == [91]) := by show isB T s' 4 [91] = _; simp only [isB, hb, Bool.true_and]
   cases hk : (tokAt T s'.at_).kind == 4 with
   | false => exact ⟨(e, s'), (e, s'), by simp [chainL, hb, hk], by simp [behindR, e1, e2, hk], .inl ⟨hf, rfl⟩, Nat.le_refl _⟩
   | true =>
    have hk4 : (tokAt T s'.at_).kind = 4 := by simpa using hk
    cases hd : (tokAt T s'.at_).text == [46] with
    | true =>
     have hl := left_field hT hf (by rw [hk4]; decide) e
     have hs := field_same (T := T) hf e
     have := (chain_both hT ih (c - 1) n n' _ _ (fieldS T e s').1 _ (by omega) (by omega) (by omega) (by omega) hs.st (fun hp => by
      rcases hs with ⟨_, h⟩ | ⟨h, _⟩
      ·exact congrArg Prod.fst h
      ·exact absurd hp h)).le (s0 := s') (by omega)
     simpa [chainL, hb, hk, hd, behindR, e1] using this
    | false =>
     cases hq : (tokAt T s'.at_).text == [91] with
     | false => exact ⟨(e, s'), (e, s'), by simp [chainL, hb, hk, hd, hq], by simp [behindR, e1, e2, hk, hd, hq], .inl ⟨hf, rfl⟩, Nat.le_refl _⟩
     | true =>
      obtain ⟨n, rfl⟩ : ∃ m, n = m + 1 := ⟨n - 1, by omega⟩
      have ihc : ∀ j, j < c → RowB T j := fun j hj => ih j (by omega)
      rcases row_open hT ihc hf h1 (x := [91]) rfl 0 n n' (by omega) (by omega) (by omega) with ⟨o1, o2, p, q, o3, o4, o5, o6⟩ | ⟨o1, o2, o3, o4, o5⟩
      ·have hcl := closes_same (T := T) (x := [93]) o5.st rfl
       have hlc := left_closes hT p.2 [93]
       have := (chain_both hT ih (c - 1) (n + 1) n' (closesS T [93] p.2).2 (closesR T [93] q.2) (.mk { kind := 6, pos := (tokAt T s'.at_).pos } [e, p.1]) (.mk { kind := 6, pos := (tokAt T s'.at_).pos } [e, q.1]) (by omega) (by omega) (by omega) (by omega) hcl (fun hp => by
        rcases o5 with ⟨_, rfl⟩ | ⟨h, _⟩
        ·rfl
        ·exact absurd hp (closes_failed h _))).le (s0 := s') (by omega)
       simpa [chainL, hb, hk, hd, hq, singleF, o1, o3, behindR, e1, e2, o4] using this
      ·have hR : (opensR T [91] s').fe ≠ 0 := by rw [o3]; exact o2
       have hb2 : ((opensS T [91] s').2.fe == 0) = false := by simpa using o2
       have hc1 : (closesR T [93] (opensR T [91] s')) = outS (opensR T [91] s') := by simp [closesR, takeR, isR_failed hR, failS_failed hR]
       have hc2 : (outS (opensR T [91] s')).fe ≠ 0 := hR
       refine ⟨(.mk { kind := 6, pos := (tokAt T s'.at_).pos } [e, .zero], (opensS T [91] s').2), (.mk { kind := 6, pos := (tokAt T s'.at_).pos } [e, deadE T (opensR T [91] s')], outS (opensR T [91] s')), ?_, ?_, .inr ⟨o2, o3, o4⟩, ?_⟩
       ·simp [chainL, hb, hk, hd, hq, singleF, o1, hb2]
       ·simp [behindR, e1, e2, hk, hd, hq, o5, hc1, behindR_failed hc2 n' (by omega)]
       ·simp only [left_failed o2]; omega
  ·have hf' : s'.fe ≠ 0 := by
    rcases h4 with ⟨h, _⟩ | ⟨_, h, _⟩
    ·exact absurd h hf
    ·rw [h]; exact hf
   have hb : (s.fe == 0) = false := by simpa using hf
   exact ⟨(e, s), (e', s'), by simp [chainL, hb], behindR_failed hf' (n' + 1) (by omega) e', Same.of h4 fun h => absurd h hf, Nat.le_refl _⟩
end Go.Proofs.YtghmbpmaafnodaaGreatDoor

namespace Go.Proofs.YtghmbpmaafnodaaGreatDoor
open Go.Ev
theorem Both.pure {α : Type} {T : List Tok} {s : St} {p q : α × St} (h : Same p q) (hl : left T p.2 ≤ left T s) : Both T s (some p) (some q) := ⟨p, q, rfl, rfl, h, hl⟩
theorem Both.map {α β : Type} {T : List Tok} {s : St} {a b : Option (α × St)} (h : Both T s a b) (f : α → β) : Both T s (a.bind fun p => some (f p.1, p.2)) (b.bind fun p => some (f p.1, p.2)) := by
 obtain ⟨p, q, rfl, rfl, h3, h4⟩ := h
 refine ⟨(f p.1, p.2), (f q.1, q.2), rfl, rfl, ?_, h4⟩
 rcases h3 with ⟨h, rfl⟩ | ⟨h, h1, h2⟩
 ·exact .inl ⟨h, rfl⟩
 ·exact .inr ⟨h, h1, h2⟩
theorem name_both {T : List Tok} (hT : T.length ≤ 40000000) {k : Nat} (ih : ∀ j, j < k → RowB T j) {s : St} (hf : s.fe = 0) (hk : (tokAt T s.at_).kind = 1) (hs : left T s ≤ k) (n n' : Nat) (hn : 30 * k + 9 ≤ n) (hn' : 30 * k + 9 ≤ n') :
  Both T s (nameF T (n + 1) s) (bif isR T (nameR T s).2 [40] then (argsR T (n' + 1) (nameR T s).2).bind fun p => some (.mk { kind := 7, name := (nameR T s).1, pos := (tokAt T s.at_).pos } p.1, p.2) else some (.mk { kind := 4, name := (nameR T s).1, pos := (tokAt T s.at_).pos } [], (nameR T s).2)) := by
 have hN : nameR T s = ((tokAt T s.at_).text, goS s) := by simp [nameR, hf, hk]
 have hg := left_go hT hf (by rw [hk]; decide)
 have e1 : isR T (goS s) [40] = isB T (goS s) 4 [40] := rfl
 rw [hN]
 simp only [nameF, e1]
 cases isB T (goS s) 4 [40] with
 | true =>
  obtain ⟨n, rfl⟩ : ∃ m, n = m + 1 := ⟨n - 1, by omega⟩
  have := args_both hT (k := k - 1) (fun j hj => ih j (by omega)) (s := goS s) hf (by omega) n n' (by omega) (by omega)
  exact (this.map fun l => Ex.mk { kind := 7, name := (tokAt T s.at_).text, pos := (tokAt T s.at_).pos } l).le (by omega)
 | false => exact Both.pure (.inl ⟨hf, rfl⟩) (by simp only; omega)
theorem fresh_both {T : List Tok} (hT : T.length ≤ 40000000) {k : Nat} (ih : ∀ j, j < k → RowB T j) {s : St} (hf : s.fe = 0) (hk : (tokAt T s.at_).kind = 3) (hs : left T s ≤ k) (n n' : Nat) (hn : 30 * k + 9 ≤ n) (hn' : 30 * k + 9 ≤ n') :
  Both T s (freshF T (n + 1) s) (freshR T (n' + 1) (tokAt T s.at_).pos (goS s)) := by
 have hg := left_go hT hf (by rw [hk]; decide)
 have hfg : (goS s).fe = 0 := hf
 have e1 : isR T (goS s) [91] = isB T (goS s) 4 [91] := rfl
 simp only [freshF, freshR, e1]
 cases hb : isB T (goS s) 4 [91] with
 | true =>
  have hg2 := left_is hT (by decide) hb
  have ho := of_same T (goS (goS s))
  have hw := wants_same (T := T) (x := [93]) ho.st rfl
  have hl1 := left_of hT (goS (goS s))
  have hl2 := left_wants hT (ofS T (goS (goS s))).2 [93]
  simp only [cond_true]
  obtain ⟨n, rfl⟩ : ∃ m, n = m + 1 := ⟨n - 1, by omega⟩
  obtain ⟨n', rfl⟩ : ∃ m, n' = m + 1 := ⟨n' - 1, by omega⟩
  by_cases hp : (wantsS T [93] (ofS T (goS (goS s))).2).2.fe = 0
  ·have hof : (ofS T (goS (goS s))).2.fe = 0 := by
    by_cases h : (ofS T (goS (goS s))).2.fe = 0
    ·exact h
    ·exact absurd hp (by simp only [wantsS, isB_failed h, cond_false, failS_failed h]; exact h)
   have hoe := (ho.resolve_right (by rintro ⟨h, _⟩; exact h hof)).2
   have hwe := (hw.resolve_right (by rintro ⟨h, _⟩; exact h hp)).2
   rw [hoe] at hwe
   rw [hoe, hwe]
   have := single_both hT (k := k - 1) (fun j hj => ih j (by omega)) (s := (wantsS T [93] (ofS T (goS (goS s))).2).2) hp (by omega) n n' (by omega) (by omega)
   exact (this.map fun e => Ex.mk { kind := 9, ofn := (ofS T (goS (goS s))).1.1, ofd := (ofS T (goS (goS s))).1.2, pos := (tokAt T s.at_).pos } [e]).le (by omega)
  ·have hw' := hw.resolve_left (by rintro ⟨h, _⟩; exact hp h)
   have hR : (takeR T [93] (ofR T (goS (goS s))).2).fe ≠ 0 := by rw [hw'.2.1]; exact hp
   have hb1 : (opensS T [40] (wantsS T [93] (ofS T (goS (goS s))).2).2) = (false, (wantsS T [93] (ofS T (goS (goS s))).2).2) := by simp [opensS, isB_failed hp, failS_failed hp]
   have hb2 : opensR T [40] (takeR T [93] (ofR T (goS (goS s))).2) = inS (takeR T [93] (ofR T (goS (goS s))).2) := by
    simp only [opensR, isR_failed hR, Bool.false_and, cond_false]
    rw [takeR, isR_failed hR, cond_false, failS_failed hR]
   have hR2 : (inS (takeR T [93] (ofR T (goS (goS s))).2)).fe ≠ 0 := hR
   have hc : closesR T [41] (inS (takeR T [93] (ofR T (goS (goS s))).2)) = outS (inS (takeR T [93] (ofR T (goS (goS s))).2)) := by
    unfold closesR
    rw [takeR, isR_failed hR2, cond_false, failS_failed hR2]
   have hsf : singleF T (n + 1) [40] [41] (wantsS T [93] (ofS T (goS (goS s))).2).2 = some (.zero, (wantsS T [93] (ofS T (goS (goS s))).2).2) := by simp [singleF, hb1]
   have hin : innerR T (n' + 1) (takeR T [93] (ofR T (goS (goS s))).2) = some (deadE T (inS (takeR T [93] (ofR T (goS (goS s))).2)), outS (inS (takeR T [93] (ofR T (goS (goS s))).2))) := by
    simp only [innerR, hb2, exprR_failed hR2 n' 0 (by omega) (by omega), Option.bind_some, hc]
   simp only [hsf, hin, Option.bind_some]
   exact Both.pure (.inr ⟨hp, hw'.2.1, hw'.2.2⟩) (by simp only [left_failed hp]; omega)
 | false =>
  simp only [cond_false]
  by_cases hk' : (tokAt T (goS s).at_).kind = 1
  ·have hb : ((tokAt T (goS s).at_).kind != 1) = false := by simp [hk']
   have := left_go hT hfg (by rw [hk']; decide)
   have e1' : nameR T (goS s) = ((tokAt T (goS s).at_).text, goS (goS s)) := by simp [nameR, hfg, hk']
   simp only [hb, cond_false, e1']
   exact Both.pure (.inl ⟨hf, rfl⟩) (by simp only; omega)
  ·have hb : ((tokAt T (goS s).at_).kind == 1) = false := by simpa using hk'
   have hb' : ((tokAt T (goS s).at_).kind != 1) = true := by simpa using hk'
   have h2 := failS_fe (T := T) hfg 2
   have h3 : (goS (failS T 2 (goS s))).fe ≠ 0 := by show (failS T 2 (goS s)).fe ≠ 0; rw [h2.1]; decide
   simp only [hb', cond_true, nameR, hb, Bool.and_false, cond_false]
   exact Both.pure (.inr ⟨h3, rfl, rfl⟩) (by simp only [left_failed h3]; omega)
end Go.Proofs.YtghmbpmaafnodaaGreatDoor

namespace Go.Proofs.YtghmbpmaafnodaaGreatDoor
open Go.Ev
theorem isR_at {T : List Tok} {s : St} (hf : s.fe = 0) (x : Bs) : isR T s x = ((tokAt T s.at_).kind == kw x && (tokAt T s.at_).text == x) := by simp [isR, isB, hf]
theorem left_opens {T : List Tok} (hT : T.length ≤ 40000000) (s : St) (x : Bs) : left T (opensS T x s).2 ≤ left T s := by
 cases h : isB T s 4 x with
 | true =>
  simp only [opensS, h, cond_true]
  split
  ·exact left_fail s 4
  ·have := left_is hT (by decide) h
   have e : left T { s with at_ := w64 (s.at_ + 1), opn := w64 (s.opn + 1) } = left T (goS s) := rfl
   simp only [e]; omega
 | false => simp only [opensS, h, cond_false]; exact left_fail s 2
theorem read_same {T : List Tok} {s : St} (hf : s.fe = 0) : Same (readS T s) (Ex.mk { kind := 11, pos := (tokAt T s.at_).pos } [], closesR T [41] (opensR T [40] (goS s))) := by
 have hfg : (goS s).fe = 0 := hf
 simp only [readS]
 rcases opens_same (T := T) hfg (x := [40]) rfl with ⟨h1, h2, h3, h4⟩ | ⟨h1, h2, h3⟩
 ·simp only [h1, h3, h4, cond_true]
  exact Same.of (closes_same (.refl _) rfl) fun _ => rfl
 ·simp only [h1, cond_false]
  have h3' := h3.resolve_left (by rintro ⟨h, _⟩; exact h2 h)
  have hR : (opensR T [40] (goS s)).fe ≠ 0 := by rw [h3'.2.1]; exact h2
  refine .inr ⟨h2, ?_, ?_⟩ <;> simp [closesR, takeR, isR_failed hR, failS_failed hR, outS, h3'.2.1, h3'.2.2]
theorem left_read {T : List Tok} (hT : T.length ≤ 40000000) (s : St) : left T (readS T s).2 ≤ left T (goS s) := by
 have h1 := left_opens hT (goS s) [40]
 simp only [readS]
 cases (opensS T [40] (goS s)).1 with
 | true => simp only [cond_true]; have := left_closes hT (opensS T [40] (goS s)).2 [41]; omega
 | false => simp only [cond_false]; omega
theorem first_bad {T : List Tok} {s : St} (hf : s.fe = 0) (h1 : (tokAt T s.at_).kind ≠ 1) : nameR T s = ([], failS T 2 s) ∧ (failS T 2 s).fe ≠ 0 := by
 have hb : ((tokAt T s.at_).kind == 1) = false := by simpa using h1
 exact ⟨by simp [nameR, hb], by rw [(failS_fe hf 2).1]; decide⟩
theorem first_both {T : List Tok} (hT : T.length ≤ 40000000) {k : Nat} (ih : ∀ j, j < k → RowB T j) {s : St} (hf : s.fe = 0) (hs : left T s ≤ k) (n n' : Nat) (hn : 30 * k + 10 ≤ n) (hn' : 30 * k + 10 ≤ n') :
  Both T s (firstF T (n + 1) s) (firstR T (n' + 1) s) := by
 obtain ⟨n, rfl⟩ : ∃ m, n = m + 1 := ⟨n - 1, by omega⟩
 obtain ⟨n', rfl⟩ : ∃ m, n' = m + 1 := ⟨n' - 1, by omega⟩
 have hb : (s.fe == 0) = true := by simpa using hf
 have k1 : kw [116, 114, 117, 101] = 3 := rfl
 have k2 : kw [102, 97, 108, 115, 101] = 3 := rfl
 have k3 : kw [110, 117, 108, 108] = 3 := rfl
 have k4 : kw [110, 101, 119] = 3 := rfl
 have k5 : kw [108, 101, 110] = 3 := rfl
 have k6 : kw [114, 101, 97, 100] = 3 := rfl
 have k7 : kw [40] = 4 := rfl
 have hbad : (tokAt T s.at_).kind ≠ 1 → Both T s (some (Ex.zero, failS T 2 s)) (bif isR T (nameR T s).2 [40] then (argsR T (n' + 1) (nameR T s).2).bind fun p => some (.mk { kind := 7, name := (nameR T s).1, pos := (tokAt T s.at_).pos } p.1, p.2) else some (.mk { kind := 4, name := (nameR T s).1, pos := (tokAt T s.at_).pos } [], (nameR T s).2)) := by
  intro h1
  obtain ⟨e1, e2⟩ := first_bad (T := T) hf h1
  rw [e1]
  simp only [isR_failed e2, cond_false]
  exact Both.pure (.inr ⟨e2, rfl, rfl⟩) (left_fail s 2)
 by_cases h2 : (tokAt T s.at_).kind = 2
 ·have := left_go hT hf (by rw [h2]; decide)
  simp only [firstF, firstR, hf, h2, ne_eq, not_true, if_false, if_true, beq_self_eq_true, Bool.and_self, cond_true]
  exact Both.pure (.inl ⟨hf, rfl⟩) (by simp only; omega)
 have b2 : ((tokAt T s.at_).kind == 2) = false := by simpa using h2
 by_cases h1 : (tokAt T s.at_).kind = 1
 ·have := name_both hT ih hf h1 hs n n' (by omega) (by omega)
  have e31 : ((1 : Int) == 3) = false := rfl
  have e41 : ((1 : Int) == 4) = false := rfl
  have e21 : ((1 : Int) == 2) = false := rfl
  have e12 : ¬ ((1 : Int) = 2) := by decide
  simpa only [firstF, firstR, hf, h1, e12, ne_eq, not_true, if_false, if_true, beq_self_eq_true, Bool.and_false, Bool.true_and, e31, e41, e21, cond_false, isR_at hf, k1, k2, k3, k4, k5, k6, k7, Bool.false_and, Bool.or_self, or_true, true_or] using this
 by_cases h4 : (tokAt T s.at_).kind = 4
 ·have e34 : ((4 : Int) == 3) = false := rfl
  have e24 : ((4 : Int) == 2) = false := rfl
  have e4a : ¬ ((4 : Int) = 2) := by decide
  have e4b : ¬ ((4 : Int) = 1) := by decide
  have e4c : ((4 : Int) = 3 ∨ (4 : Int) = 4) := .inr rfl
  cases ht : (tokAt T s.at_).text == [40] with
  | true =>
   have := single_both hT ih hf hs n n' (by omega) (by omega)
   simpa only [firstF, firstR, hf, h4, e4a, e4b, e4c, e34, e24, ht, ne_eq, not_true, if_false, if_true, beq_self_eq_true, Bool.and_false, Bool.true_and, cond_false, cond_true, isR_at hf, k1, k2, k3, k4, k5, k6, k7, Bool.false_and, Bool.or_self, or_true, true_or] using this
  | false =>
   have := hbad h1
   simpa only [firstF, firstR, hf, h4, e4a, e4b, e4c, e34, e24, ht, ne_eq, not_true, if_false, if_true, beq_self_eq_true, Bool.and_false, Bool.true_and, cond_false, cond_true, isR_at hf, k1, k2, k3, k4, k5, k6, k7, Bool.false_and, Bool.or_self, or_true, true_or] using this
 by_cases h3 : (tokAt T s.at_).kind = 3
 ·have hg := left_go hT hf (by rw [h3]; decide)
  have hfg : (goS s).fe = 0 := hf
  have e43 : ((3 : Int) == 4) = false := rfl
  have e23 : ((3 : Int) == 2) = false := rfl
  have e3a : ¬ ((3 : Int) = 2) := by decide
  have e3b : ¬ ((3 : Int) = 1) := by decide
  have e3c : ((3 : Int) = 3 ∨ (3 : Int) = 4) := .inl rfl
  simp only [firstF, firstR, hf, h3, e3a, e3b, e3c, e43, e23, ne_eq, not_true, if_false, if_true, beq_self_eq_true, Bool.and_false, Bool.true_and, cond_false, cond_true, isR_at hf, k1, k2, k3, k4, k5, k6, k7, Bool.false_and]
  cases t1 : (tokAt T s.at_).text == [116, 114, 117, 101] || (tokAt T s.at_).text == [102, 97, 108, 115, 101] with
  | true => simp only [cond_true]; exact Both.pure (.inl ⟨hf, rfl⟩) (by simp only [truthS]; omega)
  | false =>
   cases t2 : (tokAt T s.at_).text == [110, 117, 108, 108] with
   | true =>
    simp only [cond_true, cond_false]
    have ho := of_same T (goS s)
    refine Both.pure ?_ (by have := left_of hT (goS s); simp only [nullS]; omega)
    refine Same.of ho.st fun h => ?_
    rw [(ho.resolve_right (by rintro ⟨h', _⟩; exact h' h)).2]
   | false =>
    cases t3 : (tokAt T s.at_).text == [110, 101, 119] with
    | true => simp only [cond_true, cond_false]; exact fresh_both hT ih hf h3 hs n n' (by omega) (by omega)
    | false =>
     cases t4 : (tokAt T s.at_).text == [108, 101, 110] with
     | true =>
      simp only [cond_true, cond_false]
      have := single_both hT (k := k - 1) (fun j hj => ih j (by omega)) (s := goS s) hfg (by omega) n n' (by omega) (by omega)
      exact (this.map fun e => Ex.mk { kind := 10, pos := (tokAt T s.at_).pos } [e]).le (by omega)
     | false =>
      cases t5 : (tokAt T s.at_).text == [114, 101, 97, 100] with
      | true =>
       simp only [cond_true, cond_false]
       exact Both.pure (read_same hf) (by have := left_read hT s; omega)
      | false => simp only [cond_false]; exact hbad h1
 ·have b3 : ((tokAt T s.at_).kind == 3) = false := by simpa using h3
  have b4 : ((tokAt T s.at_).kind == 4) = false := by simpa using h4
  have := hbad h1
  simpa only [firstF, firstR, hf, h1, h2, h3, h4, b2, b3, b4, ne_eq, not_true, if_false, if_true, beq_self_eq_true, Bool.and_false, Bool.true_and, cond_false, cond_true, isR_at hf, k1, k2, k3, k4, k5, k6, k7, Bool.false_and, Bool.or_self, or_self] using this
theorem unary_both {T : List Tok} (hT : T.length ≤ 40000000) {k : Nat} (ih : ∀ j, j < k → RowB T j) {s : St} (hf : s.fe = 0) (hs : left T s ≤ k) (n n' : Nat) (hn : 30 * k + 14 ≤ n) (hn' : 30 * k + 14 ≤ n') :
  Both T s (unaryF T n s) (unaryR T n' s) := by
 obtain ⟨n, rfl⟩ : ∃ m, n = m + 1 := ⟨n - 1, by omega⟩
 obtain ⟨n', rfl⟩ : ∃ m, n' = m + 1 := ⟨n' - 1, by omega⟩
 have e1 : isR T s [45] = isB T s 4 [45] := rfl
 have e2 : isR T s [33] = isB T s 4 [33] := rfl
 have hsign : ∀ (x : Bs) (kd : Int), kw x = 4 → isB T s 4 x = true → Both T s (signF T n x kd s) (signR T n' kd s) := by
  intro x kd hx hi
  obtain ⟨n, rfl⟩ : ∃ m, n = m + 1 := ⟨n - 1, by omega⟩
  obtain ⟨n', rfl⟩ : ∃ m, n' = m + 1 := ⟨n' - 1, by omega⟩
  have ht : (tokAt T s.at_).text = x := (isB_kind hi).2.2
  simp only [signF, signR, ht]
  rcases row_open hT ih hf hs hx 5 (n + 1) n' (by omega) (by omega) (by omega) with ⟨h1, h2, p, q, h3, h4, h5, h6⟩ | ⟨h1, h2, h3, h4, h5⟩
  ·have h3' : unaryF T n (opensS T x s).2 = some p := by rw [rowF] at h3; exact h3
   simp only [h1, h3', h4, Option.bind_some, cond_true]
   refine Both.pure ?_ (by rw [left_out]; omega)
   refine Same.of h5.st.out fun h => ?_
   rw [(h5.resolve_right (by rintro ⟨h', _⟩; exact h' h)).2]
  ·simp only [h1, h5, Option.bind_some, cond_false]
   exact Both.pure (.inr ⟨h2, h3, h4⟩) (by simp only [left_failed h2]; omega)
 simp only [unaryF, unaryR, e1, e2]
 cases i1 : isB T s 4 [45] with
 | true => simp only [cond_true]; exact hsign [45] 12 rfl i1
 | false =>
  cases i2 : isB T s 4 [33] with
  | true => simp only [cond_true, cond_false]; exact hsign [33] 13 rfl i2
  | false =>
   simp only [cond_false]
   obtain ⟨n, rfl⟩ : ∃ m, n = m + 2 := ⟨n - 2, by omega⟩
   obtain ⟨n', rfl⟩ : ∃ m, n' = m + 1 := ⟨n' - 1, by omega⟩
   obtain ⟨p, q, h3, h4, h5, h6⟩ := first_both hT ih hf hs n n' (by omega) (by omega)
   have := (chain_both hT ih k (n + 1) (n' + 1) p.2 q.2 p.1 q.1 (by omega) (by omega) (by omega) (by omega) h5.st (fun h => by
    rw [(h5.resolve_right (by rintro ⟨h', _⟩; exact h' h)).2])).le h6
   rw [chainF]
   simpa only [h3, h4, Option.bind_some] using this
theorem row_both {T : List Tok} (hT : T.length ≤ 40000000) {k : Nat} (ih : ∀ j, j < k → RowB T j) {s : St} (hf : s.fe = 0) (hs : left T s ≤ k) : ∀ (j lev n n' : Nat), lev + j = 5 → 30 * k + 20 ≤ n + lev → 30 * k + 20 ≤ n' + lev → Both T s (rowF T n lev s) (exprR T n' lev s)
 | 0, lev, n, n', hl, hn, hn' => by
  obtain rfl : lev = 5 := by omega
  obtain ⟨n, rfl⟩ : ∃ m, n = m + 1 := ⟨n - 1, by omega⟩
  obtain ⟨n', rfl⟩ : ∃ m, n' = m + 1 := ⟨n' - 1, by omega⟩
  simp only [rowF, exprR, if_true]
  exact unary_both hT ih hf hs n n' (by omega) (by omega)
 | j + 1, lev, n, n', hl, hn, hn' => by
  have h5 : ¬ lev = 5 := by omega
  obtain ⟨n, rfl⟩ : ∃ m, n = m + 1 := ⟨n - 1, by omega⟩
  obtain ⟨n', rfl⟩ : ∃ m, n' = m + 1 := ⟨n' - 1, by omega⟩
  obtain ⟨p, q, g1, g2, g3, g4⟩ := row_both hT ih hf hs j (lev + 1) n n' (by omega) (by omega) (by omega)
  have := (rowL_both hT ih (lev := lev) (by omega) k n n' p.2 q.2 p.1 q.1 (by omega) (by omega) (by omega) (by omega) g3.st (fun h => by
   rw [(g3.resolve_right (by rintro ⟨h', _⟩; exact h' h)).2])).le g4
  simpa only [rowF, exprR, h5, if_false, g1, g2, Option.bind_some] using this
theorem rows_both {T : List Tok} (hT : T.length ≤ 40000000) : ∀ k, RowB T k := by
 intro k
 induction k using Nat.strongRecOn with
 | _ k ih =>
  intro s hs lev n n' hl hn hn'
  by_cases hf : s.fe = 0
  ·exact row_both hT ih hf hs (5 - lev) lev n n' (by omega) hn hn'
  ·exact row_failed hf lev n n' hl (by omega) (by omega)
end Go.Proofs.YtghmbpmaafnodaaGreatDoor

namespace Go.Proofs.YtghmbpmaafnodaaGreatDoor
open Go.Ev
set_option maxRecDepth 100000
noncomputable section
def s102 (G : CallT) (x0 : AV) (H : AHeap) : O :=
 xb (anil x0) fun x4 =>
 xb (afieldAddr P 133 x4 4) fun x5 =>
 xb (afieldAddr P 29 x5 0) fun x6 =>
 xb (aload P H 27 x6) fun x7 =>
 xb (fbin P .neq 27 true x7 (.int .i64 0)) fun x8 =>
 some (x8, H)
theorem s102_eq (G : CallT) (N : Nat) (x0 : AV) (H : AHeap) : cF Tryz.f102 G N (argsF [x0]) H = s102 G x0 H := by
 refine via_top (A := cF Tryz.f102 G N) (via_leaf _) ?_
 delta s102
 kernel_rfl
theorem run102 (N : Nat) {x0 : AV} {H : AHeap} {r : AV × AHeap} (h : s102 (evw P orc) x0 H = some r) : evw P orc 102 [x0] H = some r :=
 runF (by kernel_rfl) Tryz.func102 (by kernel_rfl) (by kernel_rfl) (by kernel_rfl) ((s102_eq (evw P orc) N x0 H).trans h)
def s119 (G : CallT) (x0 x1 x2 : AV) (H : AHeap) : O :=
 xcall H (G 121 [x0] H) fun x9 h1 =>
 xalloc h1 [(.int .i64 0), (.str []), (.int .i64 0), (.int .i64 0)] fun x7 h2 =>
 xstore h2 (astore P h2 57 x7 x9) fun h3 =>
 xcall h3 (G 102 [x0] h3) fun x11 h4 =>
 xb (aun .not x11) fun x12 =>
 xg x12 true h4 (qp (afieldAddr P 57 x7 0)) fun x14 h5 =>
 xg x12 true h5 (qr (aload P h5 3 x14)) fun x15 h6 =>
 xg x12 true h6 (qv x1) fun x16 h7 =>
 xg x12 true h7 (qp (fbin P .eql 3 false x15 x16)) fun x17 h8 =>
 xb (pickOf x12 (some x17) (some (.bool false))) fun x18 =>
 xg x18 true h8 (qp (afieldAddr P 57 x7 1)) fun x20 h9 =>
 xg x18 true h9 (qr (aload P h9 9 x20)) fun x21 h10 =>
 xg x18 true h10 (qv x2) fun x22 h11 =>
 xg x18 true h11 (qp (fbin P .eql 9 false x21 x22)) fun x23 h12 =>
 xb (pickOf x18 (some x23) (some (.bool false))) fun x24 =>
 some (x24, h12)
theorem s119_eq (G : CallT) (N : Nat) (x0 : AV) (x1 : AV) (x2 : AV) (H : AHeap) : cF Tryz.f119 G N (argsF [x0, x1, x2]) H = s119 G x0 x1 x2 H := by
 refine via_top (A := cF Tryz.f119 G N) (via_leaf _) ?_
 delta s119
 kernel_rfl
theorem run119 (N : Nat) {x0 x1 x2 : AV} {H : AHeap} {r : AV × AHeap} (h : s119 (evw P orc) x0 x1 x2 H = some r) : evw P orc 119 [x0, x1, x2] H = some r :=
 runF (by kernel_rfl) Tryz.func119 (by kernel_rfl) (by kernel_rfl) (by kernel_rfl) ((s119_eq (evw P orc) N x0 x1 x2 H).trans h)
def s120_j0 (G : CallT) (H : AHeap) : O :=
 some ((.bool false), H)
theorem s120_j0_eq (G : CallT) (N : Nat) : ∀ R H, codeC P G N (Code.snd (Code.snd (bodyOf Tryz.f120))) (rC Tryz.f120) [] (rC Tryz.f120) R H = s120_j0 G H := by
 refine via_trans (via_leaf _) fun R H => ?_
 delta s120_j0
 kernel_rfl
def s120 (G : CallT) (x0 x1 : AV) (H : AHeap) : O :=
 xcall H (G 102 [x0] H) fun x6 h1 =>
 xb (aun .not x6) fun x7 =>
 xif (some x7) (xcall h1 (G 121 [x0] h1) fun x11 h2 =>
 xb (afield P 57 x11 3) fun x12 =>
 xb (abuild P 29 [(0, x1), (1, x12)]) fun x13 =>
 xb (anil x0) fun x14 =>
 xb (afieldAddr P 133 x14 4) fun x15 =>
 xstore h2 (astore P h2 29 x15 x13) fun h3 =>
 s120_j0 G h3) (s120_j0 G h1)
theorem s120_eq (G : CallT) (N : Nat) (x0 : AV) (x1 : AV) (H : AHeap) : cF Tryz.f120 G N (argsF [x0, x1]) H = s120 G x0 x1 H := by
 refine via_top (A := cF Tryz.f120 G N) ((via_seq (by kernel_rfl) ((via_seq (by kernel_rfl) (s120_j0_eq G N) (via_leaf _))) (via_leaf _))) ?_
 delta s120
 generalize s120_j0 G = J0
 revert J0
 refine id ?_
 intro J0
 kernel_rfl
theorem run120 (N : Nat) {x0 x1 : AV} {H : AHeap} {r : AV × AHeap} (h : s120 (evw P orc) x0 x1 H = some r) : evw P orc 120 [x0, x1] H = some r :=
 runF (by kernel_rfl) Tryz.func120 (by kernel_rfl) (by kernel_rfl) (by kernel_rfl) ((s120_eq (evw P orc) N x0 x1 H).trans h)
def s121 (G : CallT) (x0 : AV) (H : AHeap) : O :=
 xalloc H [(.int .i64 0), (.str []), (.int .i64 0), (.int .i64 0)] fun x2 h1 =>
 xb (anil x0) fun x4 =>
 xb (afieldAddr P 133 x4 1) fun x5 =>
 xb (aload P h1 3 x5) fun x6 =>
 xb (fbin P .lss 3 true x6 (.int .i64 0)) fun x7 =>
 xg x7 false h1 (qv x0) fun x9 h2 =>
 xg x7 false h2 (qp (anil x9)) fun x10 h3 =>
 xg x7 false h3 (qp (afieldAddr P 133 x10 1)) fun x11 h4 =>
 xg x7 false h4 (qr (aload P h4 3 x11)) fun x12 h5 =>
 xg x7 false h5 (qv x0) fun x13 h6 =>
 xg x7 false h6 (qp (anil x13)) fun x14 h7 =>
 xg x7 false h7 (qp (afieldAddr P 133 x14 0)) fun x15 h8 =>
 xg x7 false h8 (qr (aload P h8 50 x15)) fun x16 h9 =>
 xg x7 false h9 (fun q => xboth (abuiltin P .empty .len [50] [x16]) (abuiltin P h9 .len [50] [x16]) q) fun x17 h10 =>
 xg x7 false h10 (qp (fbin P .geq 3 false x12 x17)) fun x18 h11 =>
 xb (pickOf x7 (some (.bool true)) (some x18)) fun x19 =>
 xif (some x19) (xstore h11 (astore P h11 57 x2 (.agg [(.int .i64 0), (.str []), (.int .i64 0), (.int .i64 0)])) fun h12 =>
 xb (aload P h12 57 x2) fun r =>
 some (r, h12)) (xb (anil x0) fun x22 =>
 xb (afieldAddr P 133 x22 0) fun x23 =>
 xb (aload P h11 50 x23) fun x24 =>
 xb (anil x0) fun x26 =>
 xb (afieldAddr P 133 x26 1) fun x27 =>
 xb (aload P h11 3 x27) fun x28 =>
 xb (aindexAddr P 50 x24 x28) fun x29 =>
 xb (aload P h11 57 x29) fun x30 =>
 xstore h11 (astore P h11 57 x2 x30) fun h12 =>
 xb (aload P h12 57 x2) fun r =>
 some (r, h12))
theorem s121_eq (G : CallT) (N : Nat) (x0 : AV) (H : AHeap) : cF Tryz.f121 G N (argsF [x0]) H = s121 G x0 H := by
 refine via_top (A := cF Tryz.f121 G N) (via_leaf _) ?_
 delta s121
 kernel_rfl
theorem run121 (N : Nat) {x0 : AV} {H : AHeap} {r : AV × AHeap} (h : s121 (evw P orc) x0 H = some r) : evw P orc 121 [x0] H = some r :=
 runF (by kernel_rfl) Tryz.func121 (by kernel_rfl) (by kernel_rfl) (by kernel_rfl) ((s121_eq (evw P orc) N x0 H).trans h)
def s122 (G : CallT) (x0 x1 : AV) (H : AHeap) : O :=
 xcall H (G 136 [x0, (.int .i64 4), x1] H) fun x7 h1 =>
 xg x7 false h1 (qv x0) fun x9 h2 =>
 xg x7 false h2 (fun q => xeff h2 (G 120 [x9, (.int .i64 2)] h2) q) fun x10 h3 =>
 xb (pickOf x7 (some (.bool true)) (some x10)) fun x11 =>
 some (x11, h3)
theorem s122_eq (G : CallT) (N : Nat) (x0 : AV) (x1 : AV) (H : AHeap) : cF Tryz.f122 G N (argsF [x0, x1]) H = s122 G x0 x1 H := by
 refine via_top (A := cF Tryz.f122 G N) (via_leaf _) ?_
 delta s122
 kernel_rfl
theorem run122 (N : Nat) {x0 x1 : AV} {H : AHeap} {r : AV × AHeap} (h : s122 (evw P orc) x0 x1 H = some r) : evw P orc 122 [x0, x1] H = some r :=
 runF (by kernel_rfl) Tryz.func122 (by kernel_rfl) (by kernel_rfl) (by kernel_rfl) ((s122_eq (evw P orc) N x0 x1 H).trans h)
def s136 (G : CallT) (x0 x1 x2 : AV) (H : AHeap) : O :=
 xcall H (G 119 [x0, x1, x2] H) fun x10 h1 =>
 xb (aun .not x10) fun x11 =>
 xif (some x11) (some ((.bool false), h1)) (xb (anil x0) fun x13 =>
 xb (afieldAddr P 133 x13 1) fun x14 =>
 xb (aload P h1 3 x14) fun x15 =>
 xb (fbin P .add 3 true x15 (.int .i64 1)) fun x16 =>
 xb (anil x0) fun x17 =>
 xb (afieldAddr P 133 x17 1) fun x18 =>
 xstore h1 (astore P h1 3 x18 x16) fun h2 =>
 some ((.bool true), h2))
theorem s136_eq (G : CallT) (N : Nat) (x0 : AV) (x1 : AV) (x2 : AV) (H : AHeap) : cF Tryz.f136 G N (argsF [x0, x1, x2]) H = s136 G x0 x1 x2 H := by
 refine via_top (A := cF Tryz.f136 G N) (via_leaf _) ?_
 delta s136
 kernel_rfl
theorem run136 (N : Nat) {x0 x1 x2 : AV} {H : AHeap} {r : AV × AHeap} (h : s136 (evw P orc) x0 x1 x2 H = some r) : evw P orc 136 [x0, x1, x2] H = some r :=
 runF (by kernel_rfl) Tryz.func136 (by kernel_rfl) (by kernel_rfl) (by kernel_rfl) ((s136_eq (evw P orc) N x0 x1 x2 H).trans h)
def s177 (G : CallT) (x0 x1 : AV) (H : AHeap) : O :=
 xcall H (G 119 [x0, (.int .i64 4), x1] H) fun x8 h1 =>
 xb (aun .not x8) fun x9 =>
 xif (some x9) (xcall h1 (G 120 [x0, (.int .i64 2)] h1) fun x11 h2 =>
 some (x11, h2)) (xb (anil x0) fun x14 =>
 xb (afieldAddr P 133 x14 2) fun x15 =>
 xb (aload P h1 3 x15) fun x16 =>
 xb (fbin P .geq 3 true x16 (.int .i64 50)) fun x17 =>
 xif (some x17) (xcall h1 (G 120 [x0, (.int .i64 4)] h1) fun x19 h2 =>
 some (x19, h2)) (xb (anil x0) fun x21 =>
 xb (afieldAddr P 133 x21 1) fun x22 =>
 xb (aload P h1 3 x22) fun x23 =>
 xb (fbin P .add 3 true x23 (.int .i64 1)) fun x24 =>
 xb (anil x0) fun x25 =>
 xb (afieldAddr P 133 x25 1) fun x26 =>
 xstore h1 (astore P h1 3 x26 x24) fun h2 =>
 xb (anil x0) fun x28 =>
 xb (afieldAddr P 133 x28 2) fun x29 =>
 xb (aload P h2 3 x29) fun x30 =>
 xb (fbin P .add 3 true x30 (.int .i64 1)) fun x31 =>
 xb (anil x0) fun x32 =>
 xb (afieldAddr P 133 x32 2) fun x33 =>
 xstore h2 (astore P h2 3 x33 x31) fun h3 =>
 some ((.bool true), h3)))
theorem s177_eq (G : CallT) (N : Nat) (x0 : AV) (x1 : AV) (H : AHeap) : cF Tryz.f177 G N (argsF [x0, x1]) H = s177 G x0 x1 H := by
 refine via_top (A := cF Tryz.f177 G N) (via_leaf _) ?_
 delta s177
 kernel_rfl
theorem run177 (N : Nat) {x0 x1 : AV} {H : AHeap} {r : AV × AHeap} (h : s177 (evw P orc) x0 x1 H = some r) : evw P orc 177 [x0, x1] H = some r :=
 runF (by kernel_rfl) Tryz.func177 (by kernel_rfl) (by kernel_rfl) (by kernel_rfl) ((s177_eq (evw P orc) N x0 x1 H).trans h)
def s195_0 (x14 : AV) (h2 : AHeap) : O :=
 some (x14, h2)
def s195 (G : CallT) (x0 x1 : AV) (H : AHeap) : O :=
 xb (anil x0) fun x6 =>
 xb (afieldAddr P 133 x6 2) fun x7 =>
 xb (aload P H 3 x7) fun x8 =>
 xb (fbin P .sub 3 true x8 (.int .i64 1)) fun x9 =>
 xb (anil x0) fun x10 =>
 xb (afieldAddr P 133 x10 2) fun x11 =>
 xstore H (astore P H 3 x11 x9) fun h1 =>
 xcall h1 (G 122 [x0, x1] h1) (s195_0)
theorem s195_eq (G : CallT) (N : Nat) (x0 : AV) (x1 : AV) (H : AHeap) : cF Tryz.f195 G N (argsF [x0, x1]) H = s195 G x0 x1 H := by
 refine via_top (A := cF Tryz.f195 G N) (via_leaf _) ?_
 delta s195 s195_0
 kernel_rfl
theorem run195 (N : Nat) {x0 x1 : AV} {H : AHeap} {r : AV × AHeap} (h : s195 (evw P orc) x0 x1 H = some r) : evw P orc 195 [x0, x1] H = some r :=
 runF (by kernel_rfl) Tryz.func195 (by kernel_rfl) (by kernel_rfl) (by kernel_rfl) ((s195_eq (evw P orc) N x0 x1 H).trans h)
def s101_j1 (G : CallT) (N : Nat) (x2 x3 x4 : AV) (H : AHeap) : O :=
 xb (afieldAddr P 57 x4 1) fun x52 =>
 xb (aload P H 9 x52) fun x53 =>
 xb (abuild P 43 [(0, x53), (1, x3)]) fun x55 =>
 xstore H (astore P H 43 x2 x55) fun h1 =>
 xb (aload P h1 43 x2) fun r =>
 some (r, h1)
theorem s101_j1_eq (G : CallT) (N : Nat) : ∀ R H, codeC P G N (Code.snd (Code.snd (Code.snd (Code.snd (Code.snd (Code.snd (Code.snd (bodyOf Tryz.f101)))))))) (rC Tryz.f101) [] (rC Tryz.f101) R H = s101_j1 G N (R 2) (R 3) (R 4) H := by
 refine via_trans (via_leaf _) fun R H => ?_
 delta s101_j1
 kernel_rfl
def s101_b2 (G : CallT) (N : Nat) (L2 : AV → AV → AV → AV → AV → AV → AHeap → O) (x0 x2 : AV) (x3 x4 : AV) (x46 x47 : AV) (H : AHeap) : O :=
 xb (fbin P .lss 3 false x47 x46) fun x48 =>
 xif (some x48) (xcall H (G 122 [x0, (.str [93])] H) fun x50 h1 =>
 xb (fbin P .add 3 true x47 (.int .i64 1)) fun x51 =>
 L2 x0 x2 x3 x4 x46 x51 h1) (s101_j1 G N x2 x3 x4 H)
def s101_l2 (G : CallT) (N : Nat) : Nat → AV → AV → AV → AV → AV → AV → AHeap → O
 | 0, _, _, _, _, _, _, _ => none
 | n + 1, x0, x2, x3, x4, x46, x47, H => s101_b2 G N (s101_l2 G N n) x0 x2 x3 x4 x46 x47 H
theorem s101_b2_eq (G : CallT) (N : Nat) (L2 : AV → AV → AV → AV → AV → AV → AHeap → O) : ∀ R H, codeC P G N (Code.fst (Code.fst (Code.snd (Code.fst (Code.snd (Code.snd (Code.snd (Code.snd (Code.snd (Code.snd (bodyOf Tryz.f101))))))))))) (fun R H => L2 (R 0) (R 2) (R 3) (R 4) (R 46) (R 47) H) [(2, (fun R H => s101_j1 G N (R 2) (R 3) (R 4) H))] (rC Tryz.f101) R H = s101_b2 G N L2 (R 0) (R 2) (R 3) (R 4) (R 46) (R 47) H := by
 refine via_trans (via_leaf _) fun R H => ?_
 delta s101_b2
 generalize s101_j1 G N = J0
 revert J0
 refine id ?_
 intro J0
 kernel_rfl
def s101_22 (G : CallT) (N : Nat) (h9 : AHeap) (x0 x2 : AV) (x3 x4 x35 : AV) : O :=
 xif (some x35) (xcall h9 (G 120 [x0, (.int .i64 2)] h9) fun x37 h10 =>
 xstore h10 (astore P h10 43 x2 (.agg [(.str []), (.int .i64 0)])) fun h11 =>
 xb (aload P h11 43 x2) fun r =>
 some (r, h11)) (xb (anil x0) fun x40 =>
 xb (afieldAddr P 133 x40 1) fun x41 =>
 xb (aload P h9 3 x41) fun x42 =>
 xb (fbin P .add 3 true x42 (.int .i64 1)) fun x43 =>
 xb (anil x0) fun x44 =>
 xb (afieldAddr P 133 x44 1) fun x45 =>
 xstore h9 (astore P h9 3 x45 x43) fun h10 =>
 s101_l2 G N N x0 x2 x3 x4 x3 (.int .i64 0) h10)
def s101_23 (G : CallT) (N : Nat) (x30 x0 : AV) (x2 x3 : AV) (x4 x34 : AV) (h9 : AHeap) : O :=
 xb (pickOf x30 (some x34) (some (.bool false))) (s101_22 G N h9 x0 x2 x3 x4)
def s101_24 (G : CallT) (N : Nat) (x30 x0 : AV) (x2 x3 : AV) (x4 x33 : AV) (h8 : AHeap) : O :=
 xg x30 true h8 (qp (aun .not x33)) (s101_23 G N x30 x0 x2 x3 x4)
def s101_25 (G : CallT) (N : Nat) (x30 x0 : AV) (x2 x3 : AV) (x4 x32 : AV) (h7 : AHeap) : O :=
 xg x30 true h7 (fun q => xeff h7 (G 119 [x32, (.int .i64 3), (.str [98, 111, 111, 108])] h7) q) (s101_24 G N x30 x0 x2 x3 x4)
def s101_26 (G : CallT) (N : Nat) (h6 : AHeap) (x0 x2 : AV) (x3 x4 x30 : AV) : O :=
 xg x30 true h6 (qv x0) (s101_25 G N x30 x0 x2 x3 x4)
def s101_27 (G : CallT) (N : Nat) (x25 x0 : AV) (x2 x3 : AV) (x4 x29 : AV) (h6 : AHeap) : O :=
 xb (pickOf x25 (some x29) (some (.bool false))) (s101_26 G N h6 x0 x2 x3 x4)
def s101_28 (G : CallT) (N : Nat) (x25 x0 : AV) (x2 x3 : AV) (x4 x28 : AV) (h5 : AHeap) : O :=
 xg x25 true h5 (qp (aun .not x28)) (s101_27 G N x25 x0 x2 x3 x4)
def s101_29 (G : CallT) (N : Nat) (x25 x0 : AV) (x2 x3 : AV) (x4 x27 : AV) (h4 : AHeap) : O :=
 xg x25 true h4 (fun q => xeff h4 (G 119 [x27, (.int .i64 3), (.str [105, 110, 116])] h4) q) (s101_28 G N x25 x0 x2 x3 x4)
def s101_30 (G : CallT) (N : Nat) (h3 : AHeap) (x0 x2 : AV) (x3 x4 x25 : AV) : O :=
 xg x25 true h3 (qv x0) (s101_29 G N x25 x0 x2 x3 x4)
def s101_31 (G : CallT) (N : Nat) (h3 : AHeap) (x0 x2 : AV) (x3 x4 x24 : AV) : O :=
 xb (fbin P .neq 3 true x24 (.int .i64 1)) (s101_30 G N h3 x0 x2 x3 x4)
def s101_32 (G : CallT) (N : Nat) (h3 : AHeap) (x0 x2 : AV) (x3 x4 x23 : AV) : O :=
 xb (aload P h3 3 x23) (s101_31 G N h3 x0 x2 x3 x4)
def s101_33 (G : CallT) (N : Nat) (x4 x0 : AV) (x2 x3 : AV) (h3 : AHeap) : O :=
 xb (afieldAddr P 57 x4 0) (s101_32 G N h3 x0 x2 x3 x4)
def s101_34 (G : CallT) (N : Nat) (x22 x0 : AV) (x2 x3 x4 : AV) (h2 : AHeap) : O :=
 xstore h2 (astore P h2 57 x4 x22) (s101_33 G N x4 x0 x2 x3)
def s101_35 (G : CallT) (N : Nat) (x0 x2 : AV) (x3 x22 : AV) (h1 : AHeap) : O :=
 xalloc h1 [(.int .i64 0), (.str []), (.int .i64 0), (.int .i64 0)] (s101_34 G N x22 x0 x2 x3)
def s101_j0 (G : CallT) (N : Nat) (x0 x2 x3 : AV) (H : AHeap) : O :=
 xcall H (G 121 [x0] H) (s101_35 G N x0 x2 x3)
theorem s101_j0_eq (G : CallT) (N : Nat) : ∀ R H, codeC P G N (Code.snd (Code.snd (Code.snd (bodyOf Tryz.f101)))) (rC Tryz.f101) [] (rC Tryz.f101) R H = s101_j0 G N (R 0) (R 2) (R 3) H := by
 refine via_trans ((via_seq (by kernel_rfl) ((via_seq (by kernel_rfl) ((via_seq (by kernel_rfl) ((via_seq (by kernel_rfl) (s101_j1_eq G N) ((via_seq (by kernel_rfl) ((via_block (by kernel_rfl) ((via_loop (k := fun m R H => s101_l2 G N m (R 0) (R 2) (R 3) (R 4) (R 46) (R 47) H) (by kernel_rfl) (fun R H => by kernel_rfl) (fun m => s101_b2_eq G N (s101_l2 G N m)))))) (via_leaf _))))) (via_leaf _))) (via_leaf _))) (via_leaf _))) fun R H => ?_
 delta s101_j0 s101_35 s101_34 s101_33 s101_32 s101_31 s101_30 s101_29 s101_28 s101_27 s101_26 s101_25 s101_24 s101_23 s101_22
 generalize s101_l2 G N N = J0
 revert J0
 refine id ?_
 intro J0
 kernel_rfl
def s101_51 (G : CallT) (N : Nat) (x0 x2 x3 : AV) (h1 : AHeap) : O :=
 s101_j0 G N x0 x2 x3 h1
def s101_52 (G : CallT) (N : Nat) (L3 : AV → AV → AV → AHeap → O) (x3 x0 : AV) (x2 x6 : AV) (h1 : AHeap) : O :=
 xif (some x6) (xb (fbin P .eql 3 true x3 (.int .i64 3)) fun x8 =>
 xif (some x8) (xcall h1 (G 120 [x0, (.int .i64 4)] h1) fun x10 h2 =>
 xstore h2 (astore P h2 43 x2 (.agg [(.str []), (.int .i64 0)])) fun h3 =>
 xb (aload P h3 43 x2) fun r =>
 some (r, h3)) (xb (fbin P .add 3 true x3 (.int .i64 1)) fun x13 =>
 xb (anil x0) fun x15 =>
 xb (afieldAddr P 133 x15 1) fun x16 =>
 xb (aload P h1 3 x16) fun x17 =>
 xb (fbin P .add 3 true x17 (.int .i64 1)) fun x18 =>
 xb (anil x0) fun x19 =>
 xb (afieldAddr P 133 x19 1) fun x20 =>
 xstore h1 (astore P h1 3 x20 x18) fun h2 =>
 L3 x0 x2 x13 h2)) (s101_51 G N x0 x2 x3 h1)
def s101_b3 (G : CallT) (N : Nat) (L3 : AV → AV → AV → AHeap → O) (x0 x2 x3 : AV) (H : AHeap) : O :=
 xcall H (G 119 [x0, (.int .i64 4), (.str [91])] H) (s101_52 G N L3 x3 x0 x2)
def s101_l3 (G : CallT) (N : Nat) : Nat → AV → AV → AV → AHeap → O
 | 0, _, _, _, _ => none
 | n + 1, x0, x2, x3, H => s101_b3 G N (s101_l3 G N n) x0 x2 x3 H
theorem s101_b3_eq (G : CallT) (N : Nat) (L3 : AV → AV → AV → AHeap → O) : ∀ R H, codeC P G N (Code.fst (Code.fst (Code.fst (Code.snd (Code.snd (bodyOf Tryz.f101)))))) (fun R H => L3 (R 0) (R 2) (R 3) H) [(0, (fun R H => s101_j0 G N (R 0) (R 2) (R 3) H))] (rC Tryz.f101) R H = s101_b3 G N L3 (R 0) (R 2) (R 3) H := by
 refine via_trans (via_leaf _) fun R H => ?_
 delta s101_b3 s101_52 s101_51
 generalize s101_j0 G N = J0
 revert J0
 refine id ?_
 intro J0
 kernel_rfl
def s101_53 (G : CallT) (N : Nat) (x0 x2 : AV) (h1 : AHeap) : O :=
 s101_l3 G N N x0 x2 (.int .i64 0) h1
def s101 (G : CallT) (N : Nat) (x0 : AV) (H : AHeap) : O :=
 xalloc H [(.str []), (.int .i64 0)] (s101_53 G N x0)
theorem s101_eq (G : CallT) (N : Nat) (x0 : AV) (H : AHeap) : cF Tryz.f101 G N (argsF [x0]) H = s101 G N x0 H := by
 refine via_top (A := cF Tryz.f101 G N) ((via_seq (by kernel_rfl) ((via_seq (by kernel_rfl) ((via_seq (by kernel_rfl) (s101_j0_eq G N) ((via_block (by kernel_rfl) ((via_loop (k := fun m R H => s101_l3 G N m (R 0) (R 2) (R 3) H) (by kernel_rfl) (fun R H => by kernel_rfl) (fun m => s101_b3_eq G N (s101_l3 G N m)))))))) (via_leaf _))) (via_leaf _))) ?_
 delta s101 s101_53
 generalize s101_l3 G N N = J0
 revert J0
 refine id ?_
 intro J0
 kernel_rfl
theorem run101 (N : Nat) {x0 : AV} {H : AHeap} {r : AV × AHeap} (h : s101 (evw P orc) N x0 H = some r) : evw P orc 101 [x0] H = some r :=
 runF (by kernel_rfl) Tryz.func101 (by kernel_rfl) (by kernel_rfl) (by kernel_rfl) ((s101_eq (evw P orc) N x0 H).trans h)
def s171_j0 (G : CallT) (N : Nat) (H : AHeap) : O :=
 some ((.int .i64 0), H)
theorem s171_j0_eq (G : CallT) (N : Nat) : ∀ R H, codeC P G N (Code.snd (Code.snd (bodyOf Tryz.f171))) (rC Tryz.f171) [] (rC Tryz.f171) R H = s171_j0 G N H := by
 refine via_trans (via_leaf _) fun R H => ?_
 delta s171_j0
 kernel_rfl
def s171_b1 (G : CallT) (N : Nat) (L1 : AV → AV → AV → AV → AHeap → O) (x0 x13 : AV) (x14 x15 : AV) (H : AHeap) : O :=
 xb (fbin P .lss 3 false x15 x14) fun x16 =>
 xif (some x16) (xb (aindexAddr P 200 x13 x15) fun x17 =>
 xb (aload P H 199 x17) fun x18 =>
 xalloc H [(.str []), (.int .i64 0)] fun x6 h1 =>
 xstore h1 (astore P h1 199 x6 x18) fun h2 =>
 xb (afieldAddr P 199 x6 0) fun x20 =>
 xb (aload P h2 9 x20) fun x21 =>
 xcall h2 (G 119 [x0, (.int .i64 4), x21] h2) fun x22 h3 =>
 xif (some x22) (xb (afieldAddr P 199 x6 1) fun x23 =>
 xb (aload P h3 3 x23) fun x24 =>
 some (x24, h3)) (xb (fbin P .add 3 true x15 (.int .i64 1)) fun x25 =>
 L1 x0 x13 x14 x25 h3)) (s171_j0 G N H)
def s171_l1 (G : CallT) (N : Nat) : Nat → AV → AV → AV → AV → AHeap → O
 | 0, _, _, _, _, _ => none
 | n + 1, x0, x13, x14, x15, H => s171_b1 G N (s171_l1 G N n) x0 x13 x14 x15 H
theorem s171_b1_eq (G : CallT) (N : Nat) (L1 : AV → AV → AV → AV → AHeap → O) : ∀ R H, codeC P G N (Code.fst (Code.fst (Code.snd (Code.fst (Code.snd (bodyOf Tryz.f171)))))) (fun R H => L1 (R 0) (R 13) (R 14) (R 15) H) [(0, (fun R H => s171_j0 G N H))] (rC Tryz.f171) R H = s171_b1 G N L1 (R 0) (R 13) (R 14) (R 15) H := by
 refine via_trans (via_leaf _) fun R H => ?_
 delta s171_b1
 generalize s171_j0 G N = J0
 revert J0
 refine id ?_
 intro J0
 kernel_rfl
def s171 (G : CallT) (N : Nat) (x0 x1 : AV) (H : AHeap) : O :=
 xb (anil x0) fun x8 =>
 xb (afieldAddr P 133 x8 3) fun x9 =>
 xb (aload P H 131 x9) fun x10 =>
 xb (aindexAddr P 131 x10 x1) fun x12 =>
 xb (aload P H 200 x12) fun x13 =>
 xlen P .len [200] [x13] H fun x14 =>
 s171_l1 G N N x0 x13 x14 (.int .i64 0) H
theorem s171_eq (G : CallT) (N : Nat) (x0 : AV) (x1 : AV) (H : AHeap) : cF Tryz.f171 G N (argsF [x0, x1]) H = s171 G N x0 x1 H := by
 refine via_top (A := cF Tryz.f171 G N) ((via_seq (by kernel_rfl) ((via_seq (by kernel_rfl) (s171_j0_eq G N) ((via_seq (by kernel_rfl) ((via_block (by kernel_rfl) ((via_loop (k := fun m R H => s171_l1 G N m (R 0) (R 13) (R 14) (R 15) H) (by kernel_rfl) (fun R H => by kernel_rfl) (fun m => s171_b1_eq G N (s171_l1 G N m)))))) (via_leaf _))))) (via_leaf _))) ?_
 delta s171
 generalize s171_l1 G N N = J0
 revert J0
 refine id ?_
 intro J0
 kernel_rfl
theorem run171 (N : Nat) {x0 x1 : AV} {H : AHeap} {r : AV × AHeap} (h : s171 (evw P orc) N x0 x1 H = some r) : evw P orc 171 [x0, x1] H = some r :=
 runF (by kernel_rfl) Tryz.func171 (by kernel_rfl) (by kernel_rfl) (by kernel_rfl) ((s171_eq (evw P orc) N x0 x1 H).trans h)
def s165_j0 (G : CallT) (N : Nat) (x4 x5 : AV) (H : AHeap) : O :=
 xb (aload P H 103 x5) fun x48 =>
 xstore H (astore P H 103 x4 x48) fun h1 =>
 xb (aload P h1 103 x4) fun r =>
 some (r, h1)
theorem s165_j0_eq (G : CallT) (N : Nat) : ∀ R H, codeC P G N (Code.snd (Code.snd (Code.snd (Code.snd (bodyOf Tryz.f165))))) (rC Tryz.f165) [] (rC Tryz.f165) R H = s165_j0 G N (R 4) (R 5) H := by
 refine via_trans (via_leaf _) fun R H => ?_
 delta s165_j0
 kernel_rfl
def s165_7 (L1 : AV → AV → AV → AV → AV → AHeap → O) (x0 x1 : AV) (x4 x5 x28 : AV) (h6 : AHeap) : O :=
 L1 x0 x1 x4 x5 x28 h6
def s165_8 (G : CallT) (L1 : AV → AV → AV → AV → AV → AHeap → O) (h5 : AHeap) (x0 x1 : AV) (x4 x5 : AV) : O :=
 xcall h5 (G 171 [x0, x1] h5) (s165_7 L1 x0 x1 x4 x5)
def s165_25 (G : CallT) (N : Nat) (x4 x5 : AV) (H : AHeap) : O :=
 s165_j0 G N x4 x5 H
def s165_26 (G : CallT) (N : Nat) (L1 : AV → AV → AV → AV → AV → AHeap → O) (H : AHeap) (x0 x1 : AV) (x5 x6 : AV) (x4 x25 : AV) : O :=
 xif (some x25) (xcall H (G 121 [x0] H) fun x30 h1 =>
 xb (afield P 57 x30 3) fun x31 =>
 xb (anil x0) fun x33 =>
 xb (afieldAddr P 133 x33 1) fun x34 =>
 xb (aload P h1 3 x34) fun x35 =>
 xb (fbin P .add 3 true x35 (.int .i64 1)) fun x36 =>
 xb (anil x0) fun x37 =>
 xb (afieldAddr P 133 x37 1) fun x38 =>
 xstore h1 (astore P h1 3 x38 x36) fun h2 =>
 xb (fbin P .add 3 true x1 (.int .i64 1)) fun x43 =>
 xcall h2 (G 165 [x0, x43] h2) fun x44 h3 =>
 xb (aload P h3 103 x5) fun x40 =>
 xmake h3 (sliceOf P (h3).next 96 2 [(0, x40), (1, x44)]) fun x45 h4 =>
 xb (abuild P 103 [(0, x6), (4, x45), (5, x31)]) fun x47 =>
 xstore h4 (astore P h4 103 x5 x47) fun h5 =>
 bif ((rdIs (aload P h2 103 x5) x40 && (rdIs (aload P h3 103 x5) x40 && true)) && true) then (s165_8 G L1 h5 x0 x1 x4 x5) else none) (s165_25 G N x4 x5 H)
def s165_b1 (G : CallT) (N : Nat) (L1 : AV → AV → AV → AV → AV → AHeap → O) (x0 x1 : AV) (x4 x5 x6 : AV) (H : AHeap) : O :=
 xb (fbin P .neq 3 true x6 (.int .i64 0)) (s165_26 G N L1 H x0 x1 x5 x6 x4)
def s165_l1 (G : CallT) (N : Nat) : Nat → AV → AV → AV → AV → AV → AHeap → O
 | 0, _, _, _, _, _, _ => none
 | n + 1, x0, x1, x4, x5, x6, H => s165_b1 G N (s165_l1 G N n) x0 x1 x4 x5 x6 H
theorem s165_b1_eq (G : CallT) (N : Nat) (L1 : AV → AV → AV → AV → AV → AHeap → O) : ∀ R H, codeC P G N (Code.fst (Code.fst (Code.snd (Code.fst (Code.snd (Code.snd (Code.snd (bodyOf Tryz.f165)))))))) (fun R H => L1 (R 0) (R 1) (R 4) (R 5) (R 6) H) [(0, (fun R H => s165_j0 G N (R 4) (R 5) H))] (rC Tryz.f165) R H = s165_b1 G N L1 (R 0) (R 1) (R 4) (R 5) (R 6) H := by
 refine via_trans (via_leaf _) fun R H => ?_
 delta s165_b1 s165_26 s165_25 s165_8 s165_7
 generalize s165_j0 G N = J0
 revert J0
 refine id ?_
 intro J0
 kernel_rfl
def s165_27 (G : CallT) (N : Nat) (x0 x1 : AV) (x4 x5 x23 : AV) (h5 : AHeap) : O :=
 s165_l1 G N N x0 x1 x4 x5 x23 h5
def s165 (G : CallT) (N : Nat) (x0 x1 : AV) (H : AHeap) : O :=
 xalloc H [(.int .i64 0), (.int .i64 0), (.str []), (.str []), (.int .i64 0), AV.nilSl, (.int .i64 0), (.int .i64 0), (.int .i64 0), (.int .i64 0), (.int .i64 0)] fun x4 h1 =>
 xb (anil x0) fun x10 =>
 xb (afieldAddr P 133 x10 3) fun x11 =>
 xb (aload P h1 131 x11) fun x12 =>
 xlen P .len [131] [x12] h1 fun x13 =>
 xb (fbin P .eql 3 false x1 x13) fun x14 =>
 xif (some x14) (xcall h1 (G 170 [x0] h1) fun x16 h2 =>
 xstore h2 (astore P h2 103 x4 x16) fun h3 =>
 xb (aload P h3 103 x4) fun r =>
 some (r, h3)) (xb (fbin P .add 3 true x1 (.int .i64 1)) fun x19 =>
 xcall h1 (G 165 [x0, x19] h1) fun x20 h2 =>
 xalloc h2 [(.int .i64 0), (.int .i64 0), (.str []), (.str []), (.int .i64 0), AV.nilSl, (.int .i64 0), (.int .i64 0), (.int .i64 0), (.int .i64 0), (.int .i64 0)] fun x5 h3 =>
 xstore h3 (astore P h3 103 x5 x20) fun h4 =>
 xcall h4 (G 171 [x0, x1] h4) (s165_27 G N x0 x1 x4 x5))
theorem s165_eq (G : CallT) (N : Nat) (x0 : AV) (x1 : AV) (H : AHeap) : cF Tryz.f165 G N (argsF [x0, x1]) H = s165 G N x0 x1 H := by
 refine via_top (A := cF Tryz.f165 G N) ((via_seq (by kernel_rfl) ((via_seq (by kernel_rfl) ((via_seq (by kernel_rfl) ((via_seq (by kernel_rfl) (s165_j0_eq G N) ((via_seq (by kernel_rfl) ((via_block (by kernel_rfl) ((via_loop (k := fun m R H => s165_l1 G N m (R 0) (R 1) (R 4) (R 5) (R 6) H) (by kernel_rfl) (fun R H => by kernel_rfl) (fun m => s165_b1_eq G N (s165_l1 G N m)))))) (via_leaf _))))) (via_leaf _))) (via_leaf _))) (via_leaf _))) ?_
 delta s165 s165_27
 generalize s165_l1 G N N = J0
 revert J0
 refine id ?_
 intro J0
 kernel_rfl
theorem run165 (N : Nat) {x0 x1 : AV} {H : AHeap} {r : AV × AHeap} (h : s165 (evw P orc) N x0 x1 H = some r) : evw P orc 165 [x0, x1] H = some r :=
 runF (by kernel_rfl) Tryz.func165 (by kernel_rfl) (by kernel_rfl) (by kernel_rfl) ((s165_eq (evw P orc) N x0 x1 H).trans h)
def s163 (G : CallT) (x0 : AV) (H : AHeap) : O :=
 xalloc H [(.int .i64 0), (.int .i64 0), (.str []), (.str []), (.int .i64 0), AV.nilSl, (.int .i64 0), (.int .i64 0), (.int .i64 0), (.int .i64 0), (.int .i64 0)] fun x2 h1 =>
 xcall h1 (G 165 [x0, (.int .i64 0)] h1) fun x4 h2 =>
 xstore h2 (astore P h2 103 x2 x4) fun h3 =>
 xb (aload P h3 103 x2) fun r =>
 some (r, h3)
theorem s163_eq (G : CallT) (N : Nat) (x0 : AV) (H : AHeap) : cF Tryz.f163 G N (argsF [x0]) H = s163 G x0 H := by
 refine via_top (A := cF Tryz.f163 G N) (via_leaf _) ?_
 delta s163
 kernel_rfl
theorem run163 (N : Nat) {x0 : AV} {H : AHeap} {r : AV × AHeap} (h : s163 (evw P orc) x0 H = some r) : evw P orc 163 [x0] H = some r :=
 runF (by kernel_rfl) Tryz.func163 (by kernel_rfl) (by kernel_rfl) (by kernel_rfl) ((s163_eq (evw P orc) N x0 H).trans h)
def s170_j0 (G : CallT) (N : Nat) (x0 x2 : AV) (H : AHeap) : O :=
 xcall H (G 178 [x0] H) fun x45 h1 =>
 xstore h1 (astore P h1 103 x2 x45) fun h2 =>
 xb (aload P h2 103 x2) fun r =>
 some (r, h2)
theorem s170_j0_eq (G : CallT) (N : Nat) : ∀ R H, codeC P G N (Code.snd (Code.snd (bodyOf Tryz.f170))) (rC Tryz.f170) [] (rC Tryz.f170) R H = s170_j0 G N (R 0) (R 2) H := by
 refine via_trans (via_leaf _) fun R H => ?_
 delta s170_j0
 kernel_rfl
def s170_28 (G : CallT) (x4 : AV) (h4 : AHeap) (x0 x2 x17 : AV) : O :=
 xb (afieldAddr P 199 x4 0) fun x23 =>
 xb (aload P h4 9 x23) fun x24 =>
 xcall h4 (G 177 [x0, x24] h4) fun x25 h5 =>
 xb (aun .not x25) fun x26 =>
 xif (some x26) (xstore h5 (astore P h5 103 x2 (.agg [(.int .i64 0), (.int .i64 0), (.str []), (.str []), (.int .i64 0), AV.nilSl, (.int .i64 0), (.int .i64 0), (.int .i64 0), (.int .i64 0), (.int .i64 0)])) fun h6 =>
 xb (aload P h6 103 x2) fun r =>
 some (r, h6)) (xcall h5 (G 170 [x0] h5) fun x29 h6 =>
 xalloc h6 [(.int .i64 0), (.int .i64 0), (.str []), (.str []), (.int .i64 0), AV.nilSl, (.int .i64 0), (.int .i64 0), (.int .i64 0), (.int .i64 0), (.int .i64 0)] fun x6 h7 =>
 xstore h7 (astore P h7 103 x6 x29) fun h8 =>
 xb (anil x0) fun x31 =>
 xb (afieldAddr P 133 x31 2) fun x32 =>
 xb (aload P h8 3 x32) fun x33 =>
 xb (fbin P .sub 3 true x33 (.int .i64 1)) fun x34 =>
 xb (anil x0) fun x35 =>
 xb (afieldAddr P 133 x35 2) fun x36 =>
 xstore h8 (astore P h8 3 x36 x34) fun h9 =>
 xb (afieldAddr P 199 x4 1) fun x37 =>
 xb (aload P h9 3 x37) fun x38 =>
 xb (aload P h9 103 x6) fun x39 =>
 xmake h9 (sliceOf P (h9).next 96 1 [(0, x39)]) fun x40 h10 =>
 xb (abuild P 103 [(0, x38), (4, x40), (5, x17)]) fun x42 =>
 xstore h10 (astore P h10 103 x2 x42) fun h11 =>
 xb (aload P h11 103 x2) fun r =>
 some (r, h11))
def s170_41 (G : CallT) (N : Nat) (x0 x2 : AV) (H : AHeap) : O :=
 s170_j0 G N x0 x2 H
def s170_42 (G : CallT) (N : Nat) (L1 : AV → AV → AV → AV → AV → AHeap → O) (x9 x11 : AV) (H : AHeap) (x0 x2 : AV) (x10 x12 : AV) : O :=
 xif (some x12) (xb (aindexAddr P 200 x9 x11) fun x13 =>
 xb (aload P H 199 x13) fun x14 =>
 xalloc H [(.str []), (.int .i64 0)] fun x4 h1 =>
 xstore h1 (astore P h1 199 x4 x14) fun h2 =>
 xcall h2 (G 121 [x0] h2) fun x16 h3 =>
 xb (afield P 57 x16 3) fun x17 =>
 xb (afieldAddr P 199 x4 0) fun x19 =>
 xb (aload P h3 9 x19) fun x20 =>
 xcall h3 (G 119 [x0, (.int .i64 4), x20] h3) fun x21 h4 =>
 xif (some x21) (s170_28 G x4 h4 x0 x2 x17) (xb (fbin P .add 3 true x11 (.int .i64 1)) fun x43 =>
 L1 x0 x2 x9 x10 x43 h4)) (s170_41 G N x0 x2 H)
def s170_b1 (G : CallT) (N : Nat) (L1 : AV → AV → AV → AV → AV → AHeap → O) (x0 x2 : AV) (x9 x10 x11 : AV) (H : AHeap) : O :=
 xb (fbin P .lss 3 false x11 x10) (s170_42 G N L1 x9 x11 H x0 x2 x10)
def s170_l1 (G : CallT) (N : Nat) : Nat → AV → AV → AV → AV → AV → AHeap → O
 | 0, _, _, _, _, _, _ => none
 | n + 1, x0, x2, x9, x10, x11, H => s170_b1 G N (s170_l1 G N n) x0 x2 x9 x10 x11 H
theorem s170_b1_eq (G : CallT) (N : Nat) (L1 : AV → AV → AV → AV → AV → AHeap → O) : ∀ R H, codeC P G N (Code.fst (Code.fst (Code.snd (Code.fst (Code.snd (bodyOf Tryz.f170)))))) (fun R H => L1 (R 0) (R 2) (R 9) (R 10) (R 11) H) [(0, (fun R H => s170_j0 G N (R 0) (R 2) H))] (rC Tryz.f170) R H = s170_b1 G N L1 (R 0) (R 2) (R 9) (R 10) (R 11) H := by
 refine via_trans (via_leaf _) fun R H => ?_
 delta s170_b1 s170_42 s170_41 s170_28
 generalize s170_j0 G N = J0
 revert J0
 refine id ?_
 intro J0
 kernel_rfl
def s170 (G : CallT) (N : Nat) (x0 : AV) (H : AHeap) : O :=
 xalloc H [(.int .i64 0), (.int .i64 0), (.str []), (.str []), (.int .i64 0), AV.nilSl, (.int .i64 0), (.int .i64 0), (.int .i64 0), (.int .i64 0), (.int .i64 0)] fun x2 h1 =>
 xmake h1 (some (.sl (h1).next 0 2 2 (some 2), .row false 2 [[(.str [45]), (.int .i64 12)], [(.str [33]), (.int .i64 13)]])) fun x9 h2 =>
 s170_l1 G N N x0 x2 x9 (.int .i64 2) (.int .i64 0) h2
theorem s170_eq (G : CallT) (N : Nat) (x0 : AV) (H : AHeap) : cF Tryz.f170 G N (argsF [x0]) H = s170 G N x0 H := by
 refine via_top (A := cF Tryz.f170 G N) ((via_seq (by kernel_rfl) ((via_seq (by kernel_rfl) (s170_j0_eq G N) ((via_seq (by kernel_rfl) ((via_block (by kernel_rfl) ((via_loop (k := fun m R H => s170_l1 G N m (R 0) (R 2) (R 9) (R 10) (R 11) H) (by kernel_rfl) (fun R H => by kernel_rfl) (fun m => s170_b1_eq G N (s170_l1 G N m)))))) (via_leaf _))))) (via_leaf _))) ?_
 delta s170
 generalize s170_l1 G N N = J0
 revert J0
 refine id ?_
 intro J0
 kernel_rfl
theorem run170 (N : Nat) {x0 : AV} {H : AHeap} {r : AV × AHeap} (h : s170 (evw P orc) N x0 H = some r) : evw P orc 170 [x0] H = some r :=
 runF (by kernel_rfl) Tryz.func170 (by kernel_rfl) (by kernel_rfl) (by kernel_rfl) ((s170_eq (evw P orc) N x0 H).trans h)
def s178_j0 (G : CallT) (N : Nat) (x2 x3 : AV) (H : AHeap) : O :=
 xb (aload P H 103 x3) fun x29 =>
 xstore H (astore P H 103 x2 x29) fun h1 =>
 xb (aload P h1 103 x2) fun r =>
 some (r, h1)
theorem s178_j0_eq (G : CallT) (N : Nat) : ∀ R H, codeC P G N (Code.snd (Code.snd (Code.snd (Code.snd (bodyOf Tryz.f178))))) (rC Tryz.f178) [] (rC Tryz.f178) R H = s178_j0 G N (R 2) (R 3) H := by
 refine via_trans (via_leaf _) fun R H => ?_
 delta s178_j0
 kernel_rfl
def s178_5 (L1 : AV → AV → AV → AV → AHeap → O) (x3 x0 : AV) (x2 x4 x28 : AV) (h7 : AHeap) : O :=
 xstore h7 (astore P h7 103 x3 x28) fun h8 =>
 L1 x0 x2 x3 x4 h8
def s178_b1 (G : CallT) (N : Nat) (L1 : AV → AV → AV → AV → AHeap → O) (x0 x2 : AV) (x3 x4 : AV) (H : AHeap) : O :=
 xcall H (G 102 [x0] H) fun x10 h1 =>
 xb (aun .not x10) fun x11 =>
 xg x11 true h1 (qv x0) fun x13 h2 =>
 xg x11 true h2 (fun q => xeff h2 (G 121 [x13] h2) q) fun x14 h3 =>
 xg x11 true h3 (qp (afield P 57 x14 0)) fun x15 h4 =>
 xg x11 true h4 (qp (fbin P .eql 3 true x15 (.int .i64 4))) fun x16 h5 =>
 xb (pickOf x11 (some x16) (some (.bool false))) fun x17 =>
 xif (some x17) (xcall h5 (G 121 [x0] h5) fun x20 h6 =>
 xb (afield P 57 x20 1) fun x21 =>
 xb (alookup P h6 212 x4 x21 false) fun x22 =>
 xb (fbin P .eql 214 true x22 AV.nilFunc) fun x24 =>
 xif (some x24) (s178_j0 G N x2 x3 h6) (xb (aload P h6 103 x3) fun x27 =>
 xapply G h6 x22 [x0, x27] (s178_5 L1 x3 x0 x2 x4))) (s178_j0 G N x2 x3 h5)
def s178_l1 (G : CallT) (N : Nat) : Nat → AV → AV → AV → AV → AHeap → O
 | 0, _, _, _, _, _ => none
 | n + 1, x0, x2, x3, x4, H => s178_b1 G N (s178_l1 G N n) x0 x2 x3 x4 H
theorem s178_b1_eq (G : CallT) (N : Nat) (L1 : AV → AV → AV → AV → AHeap → O) : ∀ R H, codeC P G N (Code.fst (Code.fst (Code.fst (Code.snd (Code.snd (Code.snd (bodyOf Tryz.f178))))))) (fun R H => L1 (R 0) (R 2) (R 3) (R 4) H) [(0, (fun R H => s178_j0 G N (R 2) (R 3) H))] (rC Tryz.f178) R H = s178_b1 G N L1 (R 0) (R 2) (R 3) (R 4) H := by
 refine via_trans (via_leaf _) fun R H => ?_
 delta s178_b1 s178_5
 generalize s178_j0 G N = J0
 revert J0
 refine id ?_
 intro J0
 kernel_rfl
def s178 (G : CallT) (N : Nat) (x0 : AV) (H : AHeap) : O :=
 xalloc H [(.int .i64 0), (.int .i64 0), (.str []), (.str []), (.int .i64 0), AV.nilSl, (.int .i64 0), (.int .i64 0), (.int .i64 0), (.int .i64 0), (.int .i64 0)] fun x2 h1 =>
 xcall h1 (G 181 [x0] h1) fun x7 h2 =>
 xalloc h2 [(.int .i64 0), (.int .i64 0), (.str []), (.str []), (.int .i64 0), AV.nilSl, (.int .i64 0), (.int .i64 0), (.int .i64 0), (.int .i64 0), (.int .i64 0)] fun x3 h3 =>
 xstore h3 (astore P h3 103 x3 x7) fun h4 =>
 xcall h4 (G 182 [] h4) fun x8 h5 =>
 s178_l1 G N N x0 x2 x3 x8 h5
theorem s178_eq (G : CallT) (N : Nat) (x0 : AV) (H : AHeap) : cF Tryz.f178 G N (argsF [x0]) H = s178 G N x0 H := by
 refine via_top (A := cF Tryz.f178 G N) ((via_seq (by kernel_rfl) ((via_seq (by kernel_rfl) ((via_seq (by kernel_rfl) ((via_seq (by kernel_rfl) (s178_j0_eq G N) ((via_block (by kernel_rfl) ((via_loop (k := fun m R H => s178_l1 G N m (R 0) (R 2) (R 3) (R 4) H) (by kernel_rfl) (fun R H => by kernel_rfl) (fun m => s178_b1_eq G N (s178_l1 G N m)))))))) (via_leaf _))) (via_leaf _))) (via_leaf _))) ?_
 delta s178
 generalize s178_l1 G N N = J0
 revert J0
 refine id ?_
 intro J0
 kernel_rfl
theorem run178 (N : Nat) {x0 : AV} {H : AHeap} {r : AV × AHeap} (h : s178 (evw P orc) N x0 H = some r) : evw P orc 178 [x0] H = some r :=
 runF (by kernel_rfl) Tryz.func178 (by kernel_rfl) (by kernel_rfl) (by kernel_rfl) ((s178_eq (evw P orc) N x0 H).trans h)
def s181_j0 (G : CallT) (x0 x2 : AV) (H : AHeap) : O :=
 xcall H (G 120 [x0, (.int .i64 2)] H) fun x52 h1 =>
 xstore h1 (astore P h1 103 x2 (.agg [(.int .i64 0), (.int .i64 0), (.str []), (.str []), (.int .i64 0), AV.nilSl, (.int .i64 0), (.int .i64 0), (.int .i64 0), (.int .i64 0), (.int .i64 0)])) fun h2 =>
 xb (aload P h2 103 x2) fun r =>
 some (r, h2)
theorem s181_j0_eq (G : CallT) (N : Nat) : ∀ R H, codeC P G N (Code.snd (Code.snd (Code.snd (bodyOf Tryz.f181)))) (rC Tryz.f181) [] (rC Tryz.f181) R H = s181_j0 G (R 0) (R 2) H := by
 refine via_trans (via_leaf _) fun R H => ?_
 delta s181_j0
 kernel_rfl
def s181_j1 (G : CallT) (x0 x2 : AV) (x3 x30 : AV) (H : AHeap) : O :=
 xif (some x30) (xcall H (G 184 [] H) fun x33 h1 =>
 xb (afieldAddr P 57 x3 1) fun x34 =>
 xb (aload P h1 9 x34) fun x35 =>
 xb (alookup P h1 218 x33 x35 false) fun x36 =>
 bif ((rdIs (aload P H 9 x34) x35 && rdIs (aload P h1 9 x34) x35) && true) then (xb (fbin P .neq 217 true x36 AV.nilFunc) fun x38 =>
 xg x38 true h1 (qp (afieldAddr P 57 x3 0)) fun x40 h2 =>
 xg x38 true h2 (qr (aload P h2 3 x40)) fun x41 h3 =>
 xg x38 true h3 (qp (fbin P .eql 3 true x41 (.int .i64 4))) fun x42 h4 =>
 xg x38 true h4 (qp (afieldAddr P 57 x3 1)) fun x43 h5 =>
 xg x38 true h5 (qr (aload P h5 9 x43)) fun x44 h6 =>
 xg x38 true h6 (qp (fbin P .eql 9 true x44 (.str [40]))) fun x45 h7 =>
 xg x38 true h7 (qp (fbin P .eql 4 false x42 x45)) fun x46 h8 =>
 xb (pickOf x38 (some x46) (some (.bool false))) fun x47 =>
 xif (some x47) (xapply G h8 x36 [x0] fun x50 h9 =>
 xstore h9 (astore P h9 103 x2 x50) fun h10 =>
 xb (aload P h10 103 x2) fun r =>
 some (r, h10)) (s181_j0 G x0 x2 h8)) else none) (s181_j0 G x0 x2 H)
theorem s181_j1_eq (G : CallT) (N : Nat) : ∀ R H, codeC P G N (Code.snd (Code.snd (Code.snd (Code.snd (Code.snd (Code.fst (Code.snd (Code.snd (Code.fst (Code.snd (Code.snd (bodyOf Tryz.f181)))))))))))) (fun R H => s181_j0 G (R 0) (R 2) H) [(0, (fun R H => s181_j0 G (R 0) (R 2) H))] (rC Tryz.f181) R H = s181_j1 G (R 0) (R 2) (R 3) (R 30) H := by
 refine via_trans (via_leaf _) fun R H => ?_
 delta s181_j1
 generalize s181_j0 G = J0
 revert J0
 refine id ?_
 intro J0
 kernel_rfl
def s181 (G : CallT) (x0 : AV) (H : AHeap) : O :=
 xalloc H [(.int .i64 0), (.int .i64 0), (.str []), (.str []), (.int .i64 0), AV.nilSl, (.int .i64 0), (.int .i64 0), (.int .i64 0), (.int .i64 0), (.int .i64 0)] fun x2 h1 =>
 xcall h1 (G 102 [x0] h1) fun x6 h2 =>
 xif (some x6) (xstore h2 (astore P h2 103 x2 (.agg [(.int .i64 0), (.int .i64 0), (.str []), (.str []), (.int .i64 0), AV.nilSl, (.int .i64 0), (.int .i64 0), (.int .i64 0), (.int .i64 0), (.int .i64 0)])) fun h3 =>
 xb (aload P h3 103 x2) fun r =>
 some (r, h3)) (xcall h2 (G 121 [x0] h2) fun x9 h3 =>
 xalloc h3 [(.int .i64 0), (.str []), (.int .i64 0), (.int .i64 0)] fun x3 h4 =>
 xstore h4 (astore P h4 57 x3 x9) fun h5 =>
 xb (afieldAddr P 57 x3 0) fun x10 =>
 xb (aload P h5 3 x10) fun x11 =>
 xb (fbin P .eql 3 true x11 (.int .i64 2)) fun x13 =>
 xif (some x13) (xb (anil x0) fun x15 =>
 xb (afieldAddr P 133 x15 1) fun x16 =>
 xb (aload P h5 3 x16) fun x17 =>
 xb (fbin P .add 3 true x17 (.int .i64 1)) fun x18 =>
 xb (anil x0) fun x19 =>
 xb (afieldAddr P 133 x19 1) fun x20 =>
 xstore h5 (astore P h5 3 x20 x18) fun h6 =>
 xb (afieldAddr P 57 x3 2) fun x21 =>
 xb (aload P h6 3 x21) fun x22 =>
 xb (afieldAddr P 57 x3 3) fun x23 =>
 xb (aload P h6 3 x23) fun x24 =>
 xb (abuild P 103 [(0, (.int .i64 1)), (1, x22), (5, x24)]) fun x25 =>
 xstore h6 (astore P h6 103 x2 x25) fun h7 =>
 xb (aload P h7 103 x2) fun r =>
 some (r, h7)) (xb (fbin P .eql 3 true x11 (.int .i64 1)) fun x27 =>
 xif (some x27) (xcall h5 (G 183 [x0] h5) fun x29 h6 =>
 xstore h6 (astore P h6 103 x2 x29) fun h7 =>
 xb (aload P h7 103 x2) fun r =>
 some (r, h7)) (xb (fbin P .eql 3 true x11 (.int .i64 3)) fun x31 =>
 xif (some x31) (s181_j1 G x0 x2 x3 x31 h5) (xb (fbin P .eql 3 true x11 (.int .i64 4)) fun x32 =>
 s181_j1 G x0 x2 x3 x32 h5))))
theorem s181_eq (G : CallT) (N : Nat) (x0 : AV) (H : AHeap) : cF Tryz.f181 G N (argsF [x0]) H = s181 G x0 H := by
 refine via_top (A := cF Tryz.f181 G N) ((via_seq (by kernel_rfl) ((via_seq (by kernel_rfl) ((via_seq (by kernel_rfl) (s181_j0_eq G N) ((via_seq (by kernel_rfl) ((via_seq (by kernel_rfl) ((via_block (by kernel_rfl) ((via_seq (by kernel_rfl) ((via_cond (by kernel_rfl) (via_leaf _) ((via_seq (by kernel_rfl) ((via_cond (by kernel_rfl) (via_leaf _) ((via_seq (by kernel_rfl) (s181_j1_eq G N) (via_leaf _))))) (via_leaf _))))) (via_leaf _))))) (via_leaf _))) (via_leaf _))))) (via_leaf _))) (via_leaf _))) ?_
 delta s181
 generalize s181_j1 G = J0
 revert J0
 refine id ?_
 intro J0
 kernel_rfl
theorem run181 (N : Nat) {x0 : AV} {H : AHeap} {r : AV × AHeap} (h : s181 (evw P orc) x0 H = some r) : evw P orc 181 [x0] H = some r :=
 runF (by kernel_rfl) Tryz.func181 (by kernel_rfl) (by kernel_rfl) (by kernel_rfl) ((s181_eq (evw P orc) N x0 H).trans h)
def s182 (G : CallT) (H : AHeap) : O :=
 xmake H (some (.map (H).next, .map [])) fun x1 h1 =>
 xstore h1 (amapUpdate P h1 212 x1 (.str [46]) (.func (.func 185) [] [])) fun h2 =>
 xstore h2 (amapUpdate P h2 212 x1 (.str [91]) (.func (.func 186) [] [])) fun h3 =>
 some (x1, h3)
theorem s182_eq (G : CallT) (N : Nat) (H : AHeap) : cF Tryz.f182 G N (argsF []) H = s182 G H := by
 refine via_top (A := cF Tryz.f182 G N) (via_leaf _) ?_
 delta s182
 kernel_rfl
theorem run182 (N : Nat) {H : AHeap} {r : AV × AHeap} (h : s182 (evw P orc) H = some r) : evw P orc 182 [] H = some r :=
 runF (by kernel_rfl) Tryz.func182 (by kernel_rfl) (by kernel_rfl) (by kernel_rfl) ((s182_eq (evw P orc) N H).trans h)
def s183 (G : CallT) (x0 : AV) (H : AHeap) : O :=
 xalloc H [(.int .i64 0), (.int .i64 0), (.str []), (.str []), (.int .i64 0), AV.nilSl, (.int .i64 0), (.int .i64 0), (.int .i64 0), (.int .i64 0), (.int .i64 0)] fun x2 h1 =>
 xcall h1 (G 121 [x0] h1) fun x5 h2 =>
 xalloc h2 [(.int .i64 0), (.str []), (.int .i64 0), (.int .i64 0)] fun x3 h3 =>
 xstore h3 (astore P h3 57 x3 x5) fun h4 =>
 xb (anil x0) fun x7 =>
 xb (afieldAddr P 133 x7 1) fun x8 =>
 xb (aload P h4 3 x8) fun x9 =>
 xb (fbin P .add 3 true x9 (.int .i64 1)) fun x10 =>
 xb (anil x0) fun x11 =>
 xb (afieldAddr P 133 x11 1) fun x12 =>
 xstore h4 (astore P h4 3 x12 x10) fun h5 =>
 xcall h5 (G 119 [x0, (.int .i64 4), (.str [40])] h5) fun x14 h6 =>
 xb (aun .not x14) fun x15 =>
 xif (some x15) (xb (afieldAddr P 57 x3 1) fun x16 =>
 xb (aload P h6 9 x16) fun x17 =>
 xb (afieldAddr P 57 x3 3) fun x18 =>
 xb (aload P h6 3 x18) fun x19 =>
 xb (abuild P 103 [(0, (.int .i64 4)), (2, x17), (5, x19)]) fun x20 =>
 xstore h6 (astore P h6 103 x2 x20) fun h7 =>
 xb (aload P h7 103 x2) fun r =>
 some (r, h7)) (xcall h6 (G 187 [x0, (.func (.func 163) [x0] [])] h6) fun x26 h7 =>
 xb (afieldAddr P 57 x3 1) fun x21 =>
 xb (aload P h7 9 x21) fun x22 =>
 xb (afieldAddr P 57 x3 3) fun x27 =>
 xb (aload P h7 3 x27) fun x28 =>
 xb (abuild P 103 [(0, (.int .i64 7)), (2, x22), (4, x26), (5, x28)]) fun x29 =>
 xstore h7 (astore P h7 103 x2 x29) fun h8 =>
 bif ((rdIs (aload P h6 9 x21) x22 && (rdIs (aload P h7 9 x21) x22 && true)) && ((rdIs (aload P h6 3 x27) x28 && (rdIs (aload P h7 3 x27) x28 && true)) && true)) then (xb (aload P h8 103 x2) fun r =>
 some (r, h8)) else none)
theorem s183_eq (G : CallT) (N : Nat) (x0 : AV) (H : AHeap) : cF Tryz.f183 G N (argsF [x0]) H = s183 G x0 H := by
 refine via_top (A := cF Tryz.f183 G N) (via_leaf _) ?_
 delta s183
 kernel_rfl
theorem run183 (N : Nat) {x0 : AV} {H : AHeap} {r : AV × AHeap} (h : s183 (evw P orc) x0 H = some r) : evw P orc 183 [x0] H = some r :=
 runF (by kernel_rfl) Tryz.func183 (by kernel_rfl) (by kernel_rfl) (by kernel_rfl) ((s183_eq (evw P orc) N x0 H).trans h)
def s184 (G : CallT) (H : AHeap) : O :=
 xmake H (some (.map (H).next, .map [])) fun x1 h1 =>
 xstore h1 (amapUpdate P h1 218 x1 (.str [116, 114, 117, 101]) (.func (.func 188) [] [])) fun h2 =>
 xstore h2 (amapUpdate P h2 218 x1 (.str [102, 97, 108, 115, 101]) (.func (.func 188) [] [])) fun h3 =>
 xstore h3 (amapUpdate P h3 218 x1 (.str [110, 117, 108, 108]) (.func (.func 189) [] [])) fun h4 =>
 xstore h4 (amapUpdate P h4 218 x1 (.str [110, 101, 119]) (.func (.func 190) [] [])) fun h5 =>
 xstore h5 (amapUpdate P h5 218 x1 (.str [108, 101, 110]) (.func (.func 191) [] [])) fun h6 =>
 xstore h6 (amapUpdate P h6 218 x1 (.str [114, 101, 97, 100]) (.func (.func 192) [] [])) fun h7 =>
 xstore h7 (amapUpdate P h7 218 x1 (.str [40]) (.func (.func 193) [] [])) fun h8 =>
 some (x1, h8)
theorem s184_eq (G : CallT) (N : Nat) (H : AHeap) : cF Tryz.f184 G N (argsF []) H = s184 G H := by
 refine via_top (A := cF Tryz.f184 G N) (via_leaf _) ?_
 delta s184
 kernel_rfl
theorem run184 (N : Nat) {H : AHeap} {r : AV × AHeap} (h : s184 (evw P orc) H = some r) : evw P orc 184 [] H = some r :=
 runF (by kernel_rfl) Tryz.func184 (by kernel_rfl) (by kernel_rfl) (by kernel_rfl) ((s184_eq (evw P orc) N H).trans h)
def s185_j0 (G : CallT) (x0 x3 : AV) (x4 x5 x6 : AV) (H : AHeap) : O :=
 xb (anil x0) fun x25 =>
 xb (afieldAddr P 133 x25 1) fun x26 =>
 xb (aload P H 3 x26) fun x27 =>
 xb (fbin P .add 3 true x27 (.int .i64 1)) fun x28 =>
 xb (anil x0) fun x29 =>
 xb (afieldAddr P 133 x29 1) fun x30 =>
 xstore H (astore P H 3 x30 x28) fun h1 =>
 xb (afieldAddr P 57 x6 1) fun x31 =>
 xb (aload P h1 9 x31) fun x32 =>
 xb (aload P h1 103 x3) fun x33 =>
 xmake h1 (sliceOf P (h1).next 96 1 [(0, x33)]) fun x34 h2 =>
 xb (abuild P 103 [(0, (.int .i64 5)), (2, x32), (4, x34), (5, x5)]) fun x36 =>
 xstore h2 (astore P h2 103 x4 x36) fun h3 =>
 xb (aload P h3 103 x4) fun r =>
 some (r, h3)
theorem s185_j0_eq (G : CallT) (N : Nat) : ∀ R H, codeC P G N (Code.snd (Code.snd (Code.snd (Code.snd (Code.snd (bodyOf Tryz.f185)))))) (rC Tryz.f185) [] (rC Tryz.f185) R H = s185_j0 G (R 0) (R 3) (R 4) (R 5) (R 6) H := by
 refine via_trans (via_leaf _) fun R H => ?_
 delta s185_j0
 kernel_rfl
def s185 (G : CallT) (x0 x1 : AV) (H : AHeap) : O :=
 xmake H (boxOf (H).next x1) fun x3 h1 =>
 xalloc h1 [(.int .i64 0), (.int .i64 0), (.str []), (.str []), (.int .i64 0), AV.nilSl, (.int .i64 0), (.int .i64 0), (.int .i64 0), (.int .i64 0), (.int .i64 0)] fun x4 h2 =>
 xcall h2 (G 121 [x0] h2) fun x8 h3 =>
 xb (afield P 57 x8 3) fun x9 =>
 xb (anil x0) fun x11 =>
 xb (afieldAddr P 133 x11 1) fun x12 =>
 xb (aload P h3 3 x12) fun x13 =>
 xb (fbin P .add 3 true x13 (.int .i64 1)) fun x14 =>
 xb (anil x0) fun x15 =>
 xb (afieldAddr P 133 x15 1) fun x16 =>
 xstore h3 (astore P h3 3 x16 x14) fun h4 =>
 xcall h4 (G 121 [x0] h4) fun x18 h5 =>
 xalloc h5 [(.int .i64 0), (.str []), (.int .i64 0), (.int .i64 0)] fun x6 h6 =>
 xstore h6 (astore P h6 57 x6 x18) fun h7 =>
 xb (afieldAddr P 57 x6 0) fun x19 =>
 xb (aload P h7 3 x19) fun x20 =>
 xb (fbin P .neq 3 true x20 (.int .i64 1)) fun x21 =>
 xif (some x21) (xcall h7 (G 120 [x0, (.int .i64 2)] h7) fun x23 h8 =>
 s185_j0 G x0 x3 x4 x9 x6 h8) (s185_j0 G x0 x3 x4 x9 x6 h7)
theorem s185_eq (G : CallT) (N : Nat) (x0 : AV) (x1 : AV) (H : AHeap) : cF Tryz.f185 G N (argsF [x0, x1]) H = s185 G x0 x1 H := by
 refine via_top (A := cF Tryz.f185 G N) ((via_seq (by kernel_rfl) ((via_seq (by kernel_rfl) ((via_seq (by kernel_rfl) ((via_seq (by kernel_rfl) ((via_seq (by kernel_rfl) (s185_j0_eq G N) (via_leaf _))) (via_leaf _))) (via_leaf _))) (via_leaf _))) (via_leaf _))) ?_
 delta s185
 generalize s185_j0 G = J0
 revert J0
 refine id ?_
 intro J0
 kernel_rfl
theorem run185 (N : Nat) {x0 x1 : AV} {H : AHeap} {r : AV × AHeap} (h : s185 (evw P orc) x0 x1 H = some r) : evw P orc 185 [x0, x1] H = some r :=
 runF (by kernel_rfl) Tryz.func185 (by kernel_rfl) (by kernel_rfl) (by kernel_rfl) ((s185_eq (evw P orc) N x0 x1 H).trans h)
def s186 (G : CallT) (x0 x1 : AV) (H : AHeap) : O :=
 xmake H (boxOf (H).next x1) fun x3 h1 =>
 xalloc h1 [(.int .i64 0), (.int .i64 0), (.str []), (.str []), (.int .i64 0), AV.nilSl, (.int .i64 0), (.int .i64 0), (.int .i64 0), (.int .i64 0), (.int .i64 0)] fun x4 h2 =>
 xcall h2 (G 121 [x0] h2) fun x7 h3 =>
 xb (afield P 57 x7 3) fun x8 =>
 xcall h3 (G 194 [x0, (.str [91]), (.str [93])] h3) fun x11 h4 =>
 xb (aload P h4 103 x3) fun x9 =>
 xmake h4 (sliceOf P (h4).next 96 2 [(0, x9), (1, x11)]) fun x12 h5 =>
 xb (abuild P 103 [(0, (.int .i64 6)), (4, x12), (5, x8)]) fun x14 =>
 xstore h5 (astore P h5 103 x4 x14) fun h6 =>
 bif ((rdIs (aload P h3 103 x3) x9 && (rdIs (aload P h4 103 x3) x9 && true)) && true) then (xb (aload P h6 103 x4) fun r =>
 some (r, h6)) else none
theorem s186_eq (G : CallT) (N : Nat) (x0 : AV) (x1 : AV) (H : AHeap) : cF Tryz.f186 G N (argsF [x0, x1]) H = s186 G x0 x1 H := by
 refine via_top (A := cF Tryz.f186 G N) (via_leaf _) ?_
 delta s186
 kernel_rfl
theorem run186 (N : Nat) {x0 x1 : AV} {H : AHeap} {r : AV × AHeap} (h : s186 (evw P orc) x0 x1 H = some r) : evw P orc 186 [x0, x1] H = some r :=
 runF (by kernel_rfl) Tryz.func186 (by kernel_rfl) (by kernel_rfl) (by kernel_rfl) ((s186_eq (evw P orc) N x0 x1 H).trans h)
def s187_j0 (G : CallT) (N : Nat) (x0 x5 : AV) (H : AHeap) : O :=
 xcall H (G 195 [x0, (.str [41])] H) fun x25 h1 =>
 some (x5, h1)
theorem s187_j0_eq (G : CallT) (N : Nat) : ∀ R H, codeC P G N (Code.snd (Code.snd (Code.snd (Code.snd (bodyOf Tryz.f187))))) (rC Tryz.f187) [] (rC Tryz.f187) R H = s187_j0 G N (R 0) (R 5) H := by
 refine via_trans (via_leaf _) fun R H => ?_
 delta s187_j0
 kernel_rfl
def s187_b1 (G : CallT) (N : Nat) (L1 : AV → AV → AV → AHeap → O) (x0 x1 x5 : AV) (H : AHeap) : O :=
 xcall H (G 136 [x0, (.int .i64 4), (.str [44])] H) fun x18 h1 =>
 xif (some x18) (xapply G h1 x1 [] fun x21 h2 =>
 xmake h2 (sliceOf P (h2).next 96 1 [(0, x21)]) fun x22 h3 =>
 xcall h3 (aappend P h3 [96, 96] x5 x22) fun x23 h4 =>
 L1 x0 x1 x23 h4) (s187_j0 G N x0 x5 h1)
def s187_l1 (G : CallT) (N : Nat) : Nat → AV → AV → AV → AHeap → O
 | 0, _, _, _, _ => none
 | n + 1, x0, x1, x5, H => s187_b1 G N (s187_l1 G N n) x0 x1 x5 H
theorem s187_b1_eq (G : CallT) (N : Nat) (L1 : AV → AV → AV → AHeap → O) : ∀ R H, codeC P G N (Code.fst (Code.fst (Code.snd (Code.fst (Code.snd (Code.fst (Code.snd (Code.snd (Code.snd (bodyOf Tryz.f187)))))))))) (fun R H => L1 (R 0) (R 1) (R 5) H) [(0, (fun R H => s187_j0 G N (R 0) (R 5) H))] (rC Tryz.f187) R H = s187_b1 G N L1 (R 0) (R 1) (R 5) H := by
 refine via_trans (via_leaf _) fun R H => ?_
 delta s187_b1
 generalize s187_j0 G N = J0
 revert J0
 refine id ?_
 intro J0
 kernel_rfl
def s187 (G : CallT) (N : Nat) (x0 x1 : AV) (H : AHeap) : O :=
 xcall H (G 177 [x0, (.str [40])] H) fun x7 h1 =>
 xb (aun .not x7) fun x8 =>
 xif (some x8) (some (AV.nilSl, h1)) (xcall h1 (G 119 [x0, (.int .i64 4), (.str [41])] h1) fun x10 h2 =>
 xb (aun .not x10) fun x11 =>
 xif (some x11) (xapply G h2 x1 [] fun x14 h3 =>
 xmake h3 (sliceOf P (h3).next 96 1 [(0, x14)]) fun x15 h4 =>
 xcall h4 (aappend P h4 [96, 96] AV.nilSl x15) fun x16 h5 =>
 s187_l1 G N N x0 x1 x16 h5) (s187_j0 G N x0 AV.nilSl h2))
theorem s187_eq (G : CallT) (N : Nat) (x0 : AV) (x1 : AV) (H : AHeap) : cF Tryz.f187 G N (argsF [x0, x1]) H = s187 G N x0 x1 H := by
 refine via_top (A := cF Tryz.f187 G N) ((via_seq (by kernel_rfl) ((via_seq (by kernel_rfl) ((via_seq (by kernel_rfl) ((via_seq (by kernel_rfl) (s187_j0_eq G N) ((via_seq (by kernel_rfl) ((via_cond (by kernel_rfl) ((via_seq (by kernel_rfl) ((via_block (by kernel_rfl) ((via_loop (k := fun m R H => s187_l1 G N m (R 0) (R 1) (R 5) H) (by kernel_rfl) (fun R H => by kernel_rfl) (fun m => s187_b1_eq G N (s187_l1 G N m)))))) (via_leaf _))) (via_leaf _))) (via_leaf _))))) (via_leaf _))) (via_leaf _))) (via_leaf _))) ?_
 delta s187
 generalize s187_j0 G N = J0
 generalize s187_l1 G N N = J1
 revert J0 J1
 refine id ?_
 intro J0 J1
 kernel_rfl
theorem run187 (N : Nat) {x0 x1 : AV} {H : AHeap} {r : AV × AHeap} (h : s187 (evw P orc) N x0 x1 H = some r) : evw P orc 187 [x0, x1] H = some r :=
 runF (by kernel_rfl) Tryz.func187 (by kernel_rfl) (by kernel_rfl) (by kernel_rfl) ((s187_eq (evw P orc) N x0 x1 H).trans h)
def s188_j0 (G : CallT) (x2 x4 : AV) (H : AHeap) : O :=
 xb (aload P H 103 x4) fun x21 =>
 xstore H (astore P H 103 x2 x21) fun h1 =>
 xb (aload P h1 103 x2) fun r =>
 some (r, h1)
theorem s188_j0_eq (G : CallT) (N : Nat) : ∀ R H, codeC P G N (Code.snd (Code.snd (Code.snd (Code.snd (Code.snd (bodyOf Tryz.f188)))))) (rC Tryz.f188) [] (rC Tryz.f188) R H = s188_j0 G (R 2) (R 4) H := by
 refine via_trans (via_leaf _) fun R H => ?_
 delta s188_j0
 kernel_rfl
def s188 (G : CallT) (x0 : AV) (H : AHeap) : O :=
 xalloc H [(.int .i64 0), (.int .i64 0), (.str []), (.str []), (.int .i64 0), AV.nilSl, (.int .i64 0), (.int .i64 0), (.int .i64 0), (.int .i64 0), (.int .i64 0)] fun x2 h1 =>
 xcall h1 (G 121 [x0] h1) fun x6 h2 =>
 xalloc h2 [(.int .i64 0), (.str []), (.int .i64 0), (.int .i64 0)] fun x3 h3 =>
 xstore h3 (astore P h3 57 x3 x6) fun h4 =>
 xb (anil x0) fun x8 =>
 xb (afieldAddr P 133 x8 1) fun x9 =>
 xb (aload P h4 3 x9) fun x10 =>
 xb (fbin P .add 3 true x10 (.int .i64 1)) fun x11 =>
 xb (anil x0) fun x12 =>
 xb (afieldAddr P 133 x12 1) fun x13 =>
 xstore h4 (astore P h4 3 x13 x11) fun h5 =>
 xb (afieldAddr P 57 x3 3) fun x14 =>
 xb (aload P h5 3 x14) fun x15 =>
 xb (abuild P 103 [(0, (.int .i64 2)), (5, x15)]) fun x16 =>
 xalloc h5 [(.int .i64 0), (.int .i64 0), (.str []), (.str []), (.int .i64 0), AV.nilSl, (.int .i64 0), (.int .i64 0), (.int .i64 0), (.int .i64 0), (.int .i64 0)] fun x4 h6 =>
 xstore h6 (astore P h6 103 x4 x16) fun h7 =>
 xb (afieldAddr P 57 x3 1) fun x17 =>
 xb (aload P h7 9 x17) fun x18 =>
 xb (fbin P .eql 9 true x18 (.str [116, 114, 117, 101])) fun x19 =>
 xif (some x19) (xb (afieldAddr P 103 x4 1) fun x20 =>
 xstore h7 (astore P h7 3 x20 (.int .i64 1)) fun h8 =>
 s188_j0 G x2 x4 h8) (s188_j0 G x2 x4 h7)
theorem s188_eq (G : CallT) (N : Nat) (x0 : AV) (H : AHeap) : cF Tryz.f188 G N (argsF [x0]) H = s188 G x0 H := by
 refine via_top (A := cF Tryz.f188 G N) ((via_seq (by kernel_rfl) ((via_seq (by kernel_rfl) ((via_seq (by kernel_rfl) ((via_seq (by kernel_rfl) ((via_seq (by kernel_rfl) (s188_j0_eq G N) (via_leaf _))) (via_leaf _))) (via_leaf _))) (via_leaf _))) (via_leaf _))) ?_
 delta s188
 generalize s188_j0 G = J0
 revert J0
 refine id ?_
 intro J0
 kernel_rfl
theorem run188 (N : Nat) {x0 : AV} {H : AHeap} {r : AV × AHeap} (h : s188 (evw P orc) x0 H = some r) : evw P orc 188 [x0] H = some r :=
 runF (by kernel_rfl) Tryz.func188 (by kernel_rfl) (by kernel_rfl) (by kernel_rfl) ((s188_eq (evw P orc) N x0 H).trans h)
def s189 (G : CallT) (x0 : AV) (H : AHeap) : O :=
 xalloc H [(.int .i64 0), (.int .i64 0), (.str []), (.str []), (.int .i64 0), AV.nilSl, (.int .i64 0), (.int .i64 0), (.int .i64 0), (.int .i64 0), (.int .i64 0)] fun x2 h1 =>
 xcall h1 (G 121 [x0] h1) fun x5 h2 =>
 xb (afield P 57 x5 3) fun x6 =>
 xb (anil x0) fun x8 =>
 xb (afieldAddr P 133 x8 1) fun x9 =>
 xb (aload P h2 3 x9) fun x10 =>
 xb (fbin P .add 3 true x10 (.int .i64 1)) fun x11 =>
 xb (anil x0) fun x12 =>
 xb (afieldAddr P 133 x12 1) fun x13 =>
 xstore h2 (astore P h2 3 x13 x11) fun h3 =>
 xcall h3 (G 101 [x0] h3) fun x15 h4 =>
 xb (abuild P 103 [(0, (.int .i64 3)), (3, x15), (5, x6)]) fun x17 =>
 xstore h4 (astore P h4 103 x2 x17) fun h5 =>
 xb (aload P h5 103 x2) fun r =>
 some (r, h5)
theorem s189_eq (G : CallT) (N : Nat) (x0 : AV) (H : AHeap) : cF Tryz.f189 G N (argsF [x0]) H = s189 G x0 H := by
 refine via_top (A := cF Tryz.f189 G N) (via_leaf _) ?_
 delta s189
 kernel_rfl
theorem run189 (N : Nat) {x0 : AV} {H : AHeap} {r : AV × AHeap} (h : s189 (evw P orc) x0 H = some r) : evw P orc 189 [x0] H = some r :=
 runF (by kernel_rfl) Tryz.func189 (by kernel_rfl) (by kernel_rfl) (by kernel_rfl) ((s189_eq (evw P orc) N x0 H).trans h)
def s190_j0 (G : CallT) (x0 x2 : AV) (x3 x5 : AV) (H : AHeap) : O :=
 xb (anil x0) fun x36 =>
 xb (afieldAddr P 133 x36 1) fun x37 =>
 xb (aload P H 3 x37) fun x38 =>
 xb (fbin P .add 3 true x38 (.int .i64 1)) fun x39 =>
 xb (anil x0) fun x40 =>
 xb (afieldAddr P 133 x40 1) fun x41 =>
 xstore H (astore P H 3 x41 x39) fun h1 =>
 xb (afieldAddr P 57 x5 1) fun x42 =>
 xb (aload P h1 9 x42) fun x43 =>
 xb (abuild P 43 [(0, x43)]) fun x44 =>
 xb (abuild P 103 [(0, (.int .i64 8)), (3, x44), (5, x3)]) fun x46 =>
 xstore h1 (astore P h1 103 x2 x46) fun h2 =>
 xb (aload P h2 103 x2) fun r =>
 some (r, h2)
theorem s190_j0_eq (G : CallT) (N : Nat) : ∀ R H, codeC P G N (Code.snd (Code.snd (Code.snd (Code.snd (Code.snd (Code.snd (bodyOf Tryz.f190))))))) (rC Tryz.f190) [] (rC Tryz.f190) R H = s190_j0 G (R 0) (R 2) (R 3) (R 5) H := by
 refine via_trans (via_leaf _) fun R H => ?_
 delta s190_j0
 kernel_rfl
def s190 (G : CallT) (x0 : AV) (H : AHeap) : O :=
 xalloc H [(.int .i64 0), (.int .i64 0), (.str []), (.str []), (.int .i64 0), AV.nilSl, (.int .i64 0), (.int .i64 0), (.int .i64 0), (.int .i64 0), (.int .i64 0)] fun x2 h1 =>
 xcall h1 (G 121 [x0] h1) fun x7 h2 =>
 xb (afield P 57 x7 3) fun x8 =>
 xb (anil x0) fun x10 =>
 xb (afieldAddr P 133 x10 1) fun x11 =>
 xb (aload P h2 3 x11) fun x12 =>
 xb (fbin P .add 3 true x12 (.int .i64 1)) fun x13 =>
 xb (anil x0) fun x14 =>
 xb (afieldAddr P 133 x14 1) fun x15 =>
 xstore h2 (astore P h2 3 x15 x13) fun h3 =>
 xcall h3 (G 136 [x0, (.int .i64 4), (.str [91])] h3) fun x17 h4 =>
 xif (some x17) (xcall h4 (G 101 [x0] h4) fun x19 h5 =>
 xalloc h5 [(.str []), (.int .i64 0)] fun x4 h6 =>
 xstore h6 (astore P h6 43 x4 x19) fun h7 =>
 xcall h7 (G 122 [x0, (.str [93])] h7) fun x21 h8 =>
 xcall h8 (G 194 [x0, (.str [40]), (.str [41])] h8) fun x24 h9 =>
 xb (aload P h9 43 x4) fun x22 =>
 xmake h9 (sliceOf P (h9).next 96 1 [(0, x24)]) fun x25 h10 =>
 xb (abuild P 103 [(0, (.int .i64 9)), (3, x22), (4, x25), (5, x8)]) fun x27 =>
 xstore h10 (astore P h10 103 x2 x27) fun h11 =>
 bif ((rdIs (aload P h8 43 x4) x22 && (rdIs (aload P h9 43 x4) x22 && (rdIs (aload P h10 43 x4) x22 && true))) && true) then (xb (aload P h11 103 x2) fun r =>
 some (r, h11)) else none) (xcall h4 (G 121 [x0] h4) fun x29 h5 =>
 xalloc h5 [(.int .i64 0), (.str []), (.int .i64 0), (.int .i64 0)] fun x5 h6 =>
 xstore h6 (astore P h6 57 x5 x29) fun h7 =>
 xb (afieldAddr P 57 x5 0) fun x30 =>
 xb (aload P h7 3 x30) fun x31 =>
 xb (fbin P .neq 3 true x31 (.int .i64 1)) fun x32 =>
 xif (some x32) (xcall h7 (G 120 [x0, (.int .i64 2)] h7) fun x34 h8 =>
 s190_j0 G x0 x2 x8 x5 h8) (s190_j0 G x0 x2 x8 x5 h7))
theorem s190_eq (G : CallT) (N : Nat) (x0 : AV) (H : AHeap) : cF Tryz.f190 G N (argsF [x0]) H = s190 G x0 H := by
 refine via_top (A := cF Tryz.f190 G N) ((via_seq (by kernel_rfl) ((via_seq (by kernel_rfl) ((via_seq (by kernel_rfl) ((via_seq (by kernel_rfl) ((via_seq (by kernel_rfl) ((via_seq (by kernel_rfl) (s190_j0_eq G N) (via_leaf _))) (via_leaf _))) (via_leaf _))) (via_leaf _))) (via_leaf _))) (via_leaf _))) ?_
 delta s190
 generalize s190_j0 G = J0
 revert J0
 refine id ?_
 intro J0
 kernel_rfl
theorem run190 (N : Nat) {x0 : AV} {H : AHeap} {r : AV × AHeap} (h : s190 (evw P orc) x0 H = some r) : evw P orc 190 [x0] H = some r :=
 runF (by kernel_rfl) Tryz.func190 (by kernel_rfl) (by kernel_rfl) (by kernel_rfl) ((s190_eq (evw P orc) N x0 H).trans h)
def s191 (G : CallT) (x0 : AV) (H : AHeap) : O :=
 xalloc H [(.int .i64 0), (.int .i64 0), (.str []), (.str []), (.int .i64 0), AV.nilSl, (.int .i64 0), (.int .i64 0), (.int .i64 0), (.int .i64 0), (.int .i64 0)] fun x2 h1 =>
 xcall h1 (G 121 [x0] h1) fun x5 h2 =>
 xb (afield P 57 x5 3) fun x6 =>
 xb (anil x0) fun x8 =>
 xb (afieldAddr P 133 x8 1) fun x9 =>
 xb (aload P h2 3 x9) fun x10 =>
 xb (fbin P .add 3 true x10 (.int .i64 1)) fun x11 =>
 xb (anil x0) fun x12 =>
 xb (afieldAddr P 133 x12 1) fun x13 =>
 xstore h2 (astore P h2 3 x13 x11) fun h3 =>
 xcall h3 (G 194 [x0, (.str [40]), (.str [41])] h3) fun x15 h4 =>
 xmake h4 (sliceOf P (h4).next 96 1 [(0, x15)]) fun x16 h5 =>
 xb (abuild P 103 [(0, (.int .i64 10)), (4, x16), (5, x6)]) fun x18 =>
 xstore h5 (astore P h5 103 x2 x18) fun h6 =>
 xb (aload P h6 103 x2) fun r =>
 some (r, h6)
theorem s191_eq (G : CallT) (N : Nat) (x0 : AV) (H : AHeap) : cF Tryz.f191 G N (argsF [x0]) H = s191 G x0 H := by
 refine via_top (A := cF Tryz.f191 G N) (via_leaf _) ?_
 delta s191
 kernel_rfl
theorem run191 (N : Nat) {x0 : AV} {H : AHeap} {r : AV × AHeap} (h : s191 (evw P orc) x0 H = some r) : evw P orc 191 [x0] H = some r :=
 runF (by kernel_rfl) Tryz.func191 (by kernel_rfl) (by kernel_rfl) (by kernel_rfl) ((s191_eq (evw P orc) N x0 H).trans h)
def s192_j0 (G : CallT) (x2 x3 : AV) (H : AHeap) : O :=
 xb (abuild P 103 [(0, (.int .i64 11)), (5, x3)]) fun x19 =>
 xstore H (astore P H 103 x2 x19) fun h1 =>
 xb (aload P h1 103 x2) fun r =>
 some (r, h1)
theorem s192_j0_eq (G : CallT) (N : Nat) : ∀ R H, codeC P G N (Code.snd (Code.snd (Code.snd (Code.snd (bodyOf Tryz.f192))))) (rC Tryz.f192) [] (rC Tryz.f192) R H = s192_j0 G (R 2) (R 3) H := by
 refine via_trans (via_leaf _) fun R H => ?_
 delta s192_j0
 kernel_rfl
def s192 (G : CallT) (x0 : AV) (H : AHeap) : O :=
 xalloc H [(.int .i64 0), (.int .i64 0), (.str []), (.str []), (.int .i64 0), AV.nilSl, (.int .i64 0), (.int .i64 0), (.int .i64 0), (.int .i64 0), (.int .i64 0)] fun x2 h1 =>
 xcall h1 (G 121 [x0] h1) fun x5 h2 =>
 xb (afield P 57 x5 3) fun x6 =>
 xb (anil x0) fun x8 =>
 xb (afieldAddr P 133 x8 1) fun x9 =>
 xb (aload P h2 3 x9) fun x10 =>
 xb (fbin P .add 3 true x10 (.int .i64 1)) fun x11 =>
 xb (anil x0) fun x12 =>
 xb (afieldAddr P 133 x12 1) fun x13 =>
 xstore h2 (astore P h2 3 x13 x11) fun h3 =>
 xcall h3 (G 177 [x0, (.str [40])] h3) fun x15 h4 =>
 xif (some x15) (xcall h4 (G 195 [x0, (.str [41])] h4) fun x17 h5 =>
 s192_j0 G x2 x6 h5) (s192_j0 G x2 x6 h4)
theorem s192_eq (G : CallT) (N : Nat) (x0 : AV) (H : AHeap) : cF Tryz.f192 G N (argsF [x0]) H = s192 G x0 H := by
 refine via_top (A := cF Tryz.f192 G N) ((via_seq (by kernel_rfl) ((via_seq (by kernel_rfl) ((via_seq (by kernel_rfl) ((via_seq (by kernel_rfl) (s192_j0_eq G N) (via_leaf _))) (via_leaf _))) (via_leaf _))) (via_leaf _))) ?_
 delta s192
 generalize s192_j0 G = J0
 revert J0
 refine id ?_
 intro J0
 kernel_rfl
theorem run192 (N : Nat) {x0 : AV} {H : AHeap} {r : AV × AHeap} (h : s192 (evw P orc) x0 H = some r) : evw P orc 192 [x0] H = some r :=
 runF (by kernel_rfl) Tryz.func192 (by kernel_rfl) (by kernel_rfl) (by kernel_rfl) ((s192_eq (evw P orc) N x0 H).trans h)
def s193 (G : CallT) (x0 : AV) (H : AHeap) : O :=
 xalloc H [(.int .i64 0), (.int .i64 0), (.str []), (.str []), (.int .i64 0), AV.nilSl, (.int .i64 0), (.int .i64 0), (.int .i64 0), (.int .i64 0), (.int .i64 0)] fun x2 h1 =>
 xcall h1 (G 194 [x0, (.str [40]), (.str [41])] h1) fun x4 h2 =>
 xstore h2 (astore P h2 103 x2 x4) fun h3 =>
 xb (aload P h3 103 x2) fun r =>
 some (r, h3)
theorem s193_eq (G : CallT) (N : Nat) (x0 : AV) (H : AHeap) : cF Tryz.f193 G N (argsF [x0]) H = s193 G x0 H := by
 refine via_top (A := cF Tryz.f193 G N) (via_leaf _) ?_
 delta s193
 kernel_rfl
theorem run193 (N : Nat) {x0 : AV} {H : AHeap} {r : AV × AHeap} (h : s193 (evw P orc) x0 H = some r) : evw P orc 193 [x0] H = some r :=
 runF (by kernel_rfl) Tryz.func193 (by kernel_rfl) (by kernel_rfl) (by kernel_rfl) ((s193_eq (evw P orc) N x0 H).trans h)
def s194 (G : CallT) (x0 x1 x2 : AV) (H : AHeap) : O :=
 xalloc H [(.int .i64 0), (.int .i64 0), (.str []), (.str []), (.int .i64 0), AV.nilSl, (.int .i64 0), (.int .i64 0), (.int .i64 0), (.int .i64 0), (.int .i64 0)] fun x6 h1 =>
 xcall h1 (G 177 [x0, x1] h1) fun x10 h2 =>
 xb (aun .not x10) fun x11 =>
 xif (some x11) (xstore h2 (astore P h2 103 x6 (.agg [(.int .i64 0), (.int .i64 0), (.str []), (.str []), (.int .i64 0), AV.nilSl, (.int .i64 0), (.int .i64 0), (.int .i64 0), (.int .i64 0), (.int .i64 0)])) fun h3 =>
 xb (aload P h3 103 x6) fun r =>
 some (r, h3)) (xcall h2 (G 163 [x0] h2) fun x14 h3 =>
 xalloc h3 [(.int .i64 0), (.int .i64 0), (.str []), (.str []), (.int .i64 0), AV.nilSl, (.int .i64 0), (.int .i64 0), (.int .i64 0), (.int .i64 0), (.int .i64 0)] fun x7 h4 =>
 xstore h4 (astore P h4 103 x7 x14) fun h5 =>
 xcall h5 (G 195 [x0, x2] h5) fun x17 h6 =>
 xb (aload P h6 103 x7) fun x18 =>
 xstore h6 (astore P h6 103 x6 x18) fun h7 =>
 xb (aload P h7 103 x6) fun r =>
 some (r, h7))
theorem s194_eq (G : CallT) (N : Nat) (x0 : AV) (x1 : AV) (x2 : AV) (H : AHeap) : cF Tryz.f194 G N (argsF [x0, x1, x2]) H = s194 G x0 x1 x2 H := by
 refine via_top (A := cF Tryz.f194 G N) (via_leaf _) ?_
 delta s194
 kernel_rfl
theorem run194 (N : Nat) {x0 x1 x2 : AV} {H : AHeap} {r : AV × AHeap} (h : s194 (evw P orc) x0 x1 x2 H = some r) : evw P orc 194 [x0, x1, x2] H = some r :=
 runF (by kernel_rfl) Tryz.func194 (by kernel_rfl) (by kernel_rfl) (by kernel_rfl) ((s194_eq (evw P orc) N x0 x1 x2 H).trans h)
def s162 (G : CallT) (H : AHeap) : O :=
 xmake H (some (.sl (H).next 0 1 2 (some 1), .row false 2 [[(.str [124, 124]), (.int .i64 24)]])) fun x2 h1 =>
 xmake h1 (some (.sl (h1).next 0 1 2 (some 1), .row false 2 [[(.str [38, 38]), (.int .i64 23)]])) fun x4 h2 =>
 xmake h2 (some (.sl (h2).next 0 4 2 (some 4), .row false 2 [[(.str [60]), (.int .i64 19)], [(.str [60, 61]), (.int .i64 20)], [(.str [61, 61]), (.int .i64 21)], [(.str [33, 61]), (.int .i64 22)]])) fun x9 h3 =>
 xmake h3 (some (.sl (h3).next 0 2 2 (some 2), .row false 2 [[(.str [43]), (.int .i64 14)], [(.str [45]), (.int .i64 15)]])) fun x12 h4 =>
 xmake h4 (some (.sl (h4).next 0 3 2 (some 3), .row false 2 [[(.str [42]), (.int .i64 16)], [(.str [47]), (.int .i64 17)], [(.str [37]), (.int .i64 18)]])) fun x16 h5 =>
 xmake h5 (sliceOf P (h5).next 131 5 [(0, x2), (1, x4), (2, x9), (3, x12), (4, x16)]) fun x17 h6 =>
 some (x17, h6)
theorem s162_eq (G : CallT) (N : Nat) (H : AHeap) : cF Tryz.f162 G N (argsF []) H = s162 G H := by
 refine via_top (A := cF Tryz.f162 G N) (via_leaf _) ?_
 delta s162
 kernel_rfl
theorem run162 (N : Nat) {H : AHeap} {r : AV × AHeap} (h : s162 (evw P orc) H = some r) : evw P orc 162 [] H = some r :=
 runF (by kernel_rfl) Tryz.func162 (by kernel_rfl) (by kernel_rfl) (by kernel_rfl) ((s162_eq (evw P orc) N H).trans h)
def s73 (G : CallT) (x0 x1 : AV) (H : AHeap) : O :=
 xalloc H [(.str []), (.int .i64 0)] fun x4 h1 =>
 xalloc h1 [(.int .i64 0), (.int .i64 0)] fun x6 h2 =>
 xb (abuild P 133 [(0, x0), (1, x1)]) fun x11 =>
 xmake h2 (boxOf (h2).next x11) fun x12 h3 =>
 xcall h3 (G 101 [x12] h3) fun x14 h4 =>
 xalloc h4 [(.str []), (.int .i64 0)] fun x8 h5 =>
 xstore h5 (astore P h5 43 x8 x14) fun h6 =>
 xcall h6 (G 102 [x12] h6) fun x16 h7 =>
 xif (some x16) (xstore h7 (astore P h7 43 x4 (.agg [(.str []), (.int .i64 0)])) fun h8 =>
 xb (anil x12) fun x19 =>
 xb (afieldAddr P 133 x19 4) fun x20 =>
 xb (aload P h8 29 x20) fun x21 =>
 xstore h8 (astore P h8 29 x6 x21) fun h9 =>
 bif ((rdIs (aload P h7 29 x20) x21 && (rdIs (aload P h8 29 x20) x21 && true)) && true) then (xb (aload P h9 43 x4) fun r =>
 xb (aload P h9 29 x6) fun r_1 =>
 some (.tuple [r, (.int .i64 0), r_1], h9)) else none) (xb (aload P h7 43 x8) fun x22 =>
 xstore h7 (astore P h7 43 x4 x22) fun h8 =>
 xb (anil x12) fun x24 =>
 xb (afieldAddr P 133 x24 1) fun x25 =>
 xb (aload P h8 3 x25) fun x26 =>
 xstore h8 (astore P h8 29 x6 (.agg [(.int .i64 0), (.int .i64 0)])) fun h9 =>
 bif ((rdIs (aload P h7 3 x25) x26 && (rdIs (aload P h8 3 x25) x26 && true)) && true) then (xb (aload P h9 43 x4) fun r =>
 xb (aload P h9 29 x6) fun r_1 =>
 some (.tuple [r, x26, r_1], h9)) else none)
theorem s73_eq (G : CallT) (N : Nat) (x0 : AV) (x1 : AV) (H : AHeap) : cF Tryz.f73 G N (argsF [x0, x1]) H = s73 G x0 x1 H := by
 refine via_top (A := cF Tryz.f73 G N) (via_leaf _) ?_
 delta s73
 kernel_rfl
theorem run73 (N : Nat) {x0 x1 : AV} {H : AHeap} {r : AV × AHeap} (h : s73 (evw P orc) x0 x1 H = some r) : evw P orc 73 [x0, x1] H = some r :=
 runF (by kernel_rfl) Tryz.func73 (by kernel_rfl) (by kernel_rfl) (by kernel_rfl) ((s73_eq (evw P orc) N x0 x1 H).trans h)
def s153 (G : CallT) (x0 x1 x2 : AV) (H : AHeap) : O :=
 xalloc H [(.int .i64 0), (.int .i64 0), (.str []), (.str []), (.int .i64 0), AV.nilSl, (.int .i64 0), (.int .i64 0), (.int .i64 0), (.int .i64 0), (.int .i64 0)] fun x6 h1 =>
 xalloc h1 [(.int .i64 0), (.int .i64 0)] fun x8 h2 =>
 xlen P .max [3, 3] [x2, (.int .i64 0)] h2 fun x14 =>
 xcall h2 (G 162 [] h2) fun x15 h3 =>
 xb (abuild P 133 [(0, x0), (1, x1), (2, x14), (3, x15)]) fun x16 =>
 xmake h3 (boxOf (h3).next x16) fun x17 h4 =>
 xcall h4 (G 163 [x17] h4) fun x19 h5 =>
 xalloc h5 [(.int .i64 0), (.int .i64 0), (.str []), (.str []), (.int .i64 0), AV.nilSl, (.int .i64 0), (.int .i64 0), (.int .i64 0), (.int .i64 0), (.int .i64 0)] fun x10 h6 =>
 xstore h6 (astore P h6 103 x10 x19) fun h7 =>
 xcall h7 (G 102 [x17] h7) fun x21 h8 =>
 xif (some x21) (xstore h8 (astore P h8 103 x6 (.agg [(.int .i64 0), (.int .i64 0), (.str []), (.str []), (.int .i64 0), AV.nilSl, (.int .i64 0), (.int .i64 0), (.int .i64 0), (.int .i64 0), (.int .i64 0)])) fun h9 =>
 xb (anil x17) fun x24 =>
 xb (afieldAddr P 133 x24 4) fun x25 =>
 xb (aload P h9 29 x25) fun x26 =>
 xstore h9 (astore P h9 29 x8 x26) fun h10 =>
 bif ((rdIs (aload P h8 29 x25) x26 && (rdIs (aload P h9 29 x25) x26 && true)) && true) then (xb (aload P h10 103 x6) fun r =>
 xb (aload P h10 29 x8) fun r_1 =>
 some (.tuple [r, (.int .i64 0), r_1], h10)) else none) (xb (aload P h8 103 x10) fun x27 =>
 xstore h8 (astore P h8 103 x6 x27) fun h9 =>
 xb (anil x17) fun x29 =>
 xb (afieldAddr P 133 x29 1) fun x30 =>
 xb (aload P h9 3 x30) fun x31 =>
 xstore h9 (astore P h9 29 x8 (.agg [(.int .i64 0), (.int .i64 0)])) fun h10 =>
 bif ((rdIs (aload P h8 3 x30) x31 && (rdIs (aload P h9 3 x30) x31 && true)) && true) then (xb (aload P h10 103 x6) fun r =>
 xb (aload P h10 29 x8) fun r_1 =>
 some (.tuple [r, x31, r_1], h10)) else none)
theorem s153_eq (G : CallT) (N : Nat) (x0 : AV) (x1 : AV) (x2 : AV) (H : AHeap) : cF Tryz.f153 G N (argsF [x0, x1, x2]) H = s153 G x0 x1 x2 H := by
 refine via_top (A := cF Tryz.f153 G N) (via_leaf _) ?_
 delta s153
 kernel_rfl
theorem run153 (N : Nat) {x0 x1 x2 : AV} {H : AHeap} {r : AV × AHeap} (h : s153 (evw P orc) x0 x1 x2 H = some r) : evw P orc 153 [x0, x1, x2] H = some r :=
 runF (by kernel_rfl) Tryz.func153 (by kernel_rfl) (by kernel_rfl) (by kernel_rfl) ((s153_eq (evw P orc) N x0 x1 x2 H).trans h)
end
end Go.Proofs.YtghmbpmaafnodaaGreatDoor
