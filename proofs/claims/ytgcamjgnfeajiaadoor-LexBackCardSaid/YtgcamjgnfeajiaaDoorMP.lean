/-
  Texts of one proof, laid together: C1 ShF B5.
-/
import Derived.Test.YtgcamjgnfeajiaaDoorME
import Derived.Test.YtgcamjgnfeajiaaDoorMD
import Derived.Test.YtgcamjgnfeajiaaDoorMG
set_option linter.unusedVariables false
set_option linter.unusedSimpArgs false
namespace Go.Proofs.YtgcamjgnfeajiaaDoor
open Go.Ev
def decF : Nat → Nat → Bs → Bs
 | 0, _, a => a
 | f + 1, n, a => if n / 10 = 0 then UInt8.ofNat (48 + n % 10) :: a else decF f (n / 10) (UInt8.ofNat (48 + n % 10) :: a)
def txtT (t : Tok) : Bs := bif t.kind == 2 then decF 20 t.n.toNat [] else t.text
def joinT (sep : Bs) : List Tok → Bs
 | [] => []
 | t :: r => txtT t ++ (sep ++ joinT sep r)
def placesT (sep : Bs) : List Tok → Nat → List Tok
 | [], p => [⟨0, [], 0, p⟩]
 | t :: r, p => ⟨t.kind, t.text, t.n, p⟩ :: placesT sep r (p + (txtT t).length + sep.length)
def GoodT (t : Tok) : Prop := ∃ s m, oneN s = some (t.kind, t.text, t.n, m)
theorem pow20 : (10 : Nat) ^ 20 = 100000000000000000000 := by decide
theorem dig_nat (k : Nat) (h : k < 10) : (UInt8.ofNat (48 + k)).toNat = 48 + k := by
 simp only [UInt8.toNat_ofNat']; omega
theorem digB_iff {c : UInt8} : digB c = true ↔ 48 ≤ c.toNat ∧ c.toNat ≤ 57 := by
 simp only [digB, diggI, Bool.and_eq_true, decide_eq_true_eq]; omega
theorem letB_iff {c : UInt8} : letB c = true ↔ (97 ≤ c.toNat ∧ c.toNat ≤ 122) ∨ (65 ≤ c.toNat ∧ c.toNat ≤ 90) := by
 simp only [letB, lettI, Bool.or_eq_true, Bool.and_eq_true, decide_eq_true_eq]; omega
theorem wholeN_dec : ∀ (f n : Nat) (a : Bs), n < 10 ^ f → 0 < f → n ≤ 9223372036854775807 → wholeN 0 (decF f n a) = wholeN (n : Int) a
 | 0, _, _, _, hf, _ => by omega
 | f + 1, n, a, hn, _, hm => by
  rw [decF]
  have hd : (UInt8.ofNat (48 + n % 10)).toNat = 48 + n % 10 := dig_nat _ (by omega)
  split
  ·rename_i h0
   rw [wholeN, hd]
   rw [if_neg (by omega)]
   congr 1
   omega
  ·rename_i h0
   have hf : 0 < f := by
    cases f with
    | zero => exfalso; simp at hn; omega
    | succ f => omega
   rw [wholeN_dec f (n / 10) _ (by rw [Nat.pow_succ] at hn; omega) hf (by omega), wholeN, hd]
   rw [if_neg (by omega)]
   congr 1
   omega
theorem dec_all : ∀ (f n : Nat) (a : Bs), (∀ c ∈ a, digB c = true) → ∀ c ∈ decF f n a, digB c = true
 | 0, _, _, h => h
 | f + 1, n, a, h => by
  have hd : digB (UInt8.ofNat (48 + n % 10)) = true := by rw [digB_iff, dig_nat _ (by omega)]; omega
  have h' : ∀ c ∈ UInt8.ofNat (48 + n % 10) :: a, digB c = true := by
   intro c hc
   rcases List.mem_cons.1 hc with rfl | hc
   ·exact hd
   ·exact h c hc
  rw [decF]
  split
  ·exact h'
  ·exact dec_all f _ _ h'
theorem dec_head : ∀ (f n : Nat) (a : Bs), n < 10 ^ f → 0 < f → ∃ c r, decF f n a = c :: r ∧ (c.toNat = 48 → n = 0 ∧ r = a)
 | 0, _, _, _, hf => by omega
 | f + 1, n, a, hn, _ => by
  rw [decF]
  split
  ·rename_i h0
   refine ⟨_, _, rfl, fun h => ?_⟩
   rw [dig_nat _ (by omega)] at h
   exact ⟨by omega, rfl⟩
  ·rename_i h0
   have hf : 0 < f := by
    cases f with
    | zero => exfalso; simp at hn; omega
    | succ f => omega
   obtain ⟨c, r, e, h⟩ := dec_head f (n / 10) (UInt8.ofNat (48 + n % 10) :: a) (by rw [Nat.pow_succ] at hn; omega) hf
   exact ⟨c, r, e, fun hc => absurd (h hc).1 h0⟩
theorem dec_len : ∀ (f n : Nat) (a : Bs), (decF f n a).length ≤ f + a.length
 | 0, _, _ => by simp [decF]
 | f + 1, n, a => by
  rw [decF]
  split
  ·rw [List.length_cons]; omega
  ·have := dec_len f (n / 10) (UInt8.ofNat (48 + n % 10) :: a)
   rw [List.length_cons] at this; omega
theorem run_app {d : Bool} {b : UInt8} (hb : letB b = false) (hb' : digB b = false) (w : Bs) : ∀ x : Bs, (∀ c ∈ x, (digB c || (!d && letB c)) = true) → runN d (x ++ b :: w) = x.length
 | [], _ => by simp [runN, hb, hb']
 | c :: x, h => by
  rw [List.cons_append, runN, h c (List.mem_cons_self), cond_true, run_app hb hb' w x (fun c hc => h c (List.mem_cons_of_mem _ hc)), List.length_cons]
theorem run_take {d : Bool} : ∀ s : Bs, ∀ c ∈ s.take (runN d s), (digB c || (!d && letB c)) = true
 | [], _, h => by simp [runN] at h
 | c :: r, x, h => by
  rw [runN] at h
  cases hc : (digB c || (!d && letB c)) with
  | false => rw [hc] at h; simp at h
  | true =>
   rw [hc] at h
   simp only [cond_true, List.take_succ_cons, List.mem_cons] at h
   rcases h with rfl | h
   ·exact hc
   ·exact run_take r x h
theorem run_takeLen {d : Bool} : ∀ s : Bs, (s.take (runN d s)).length = runN d s
 | [] => by simp [runN]
 | c :: r => by
  rw [runN]
  cases (digB c || (!d && letB c)) with
  | false => simp
  | true => simp [run_takeLen r]
theorem wholeN_bd : ∀ (l : Bs) (a v : Int), (∀ c ∈ l, digB c = true) → 0 ≤ a → a ≤ 9223372036854775807 → wholeN a l = some v → 0 ≤ v ∧ v ≤ 9223372036854775807
 | [], a, v, _, h0, h1, h => by simp only [wholeN, Option.some.injEq] at h; omega
 | c :: r, a, v, hd, h0, h1, h => by
  rw [wholeN] at h
  have hc := digB_iff.1 (hd c (List.mem_cons_self))
  split at h
  ·cases h
  ·exact wholeN_bd r _ v (fun c hc => hd c (List.mem_cons_of_mem _ hc)) (by omega) (by omega) h
theorem memC_mem : ∀ (l : Bs) (c : UInt8), memC c l = true → c ∈ l
 | [], _, h => by simp [memC] at h
 | y :: ys, c, h => by
  rw [memC] at h
  rcases Bool.or_eq_true_iff.1 h with h | h
  ·have := UInt8.toNat_inj.1 (by simpa using h); exact this ▸ List.mem_cons_self
  ·exact List.mem_cons_of_mem _ (memC_mem ys c h)
theorem memB_mem : ∀ (l : List Bs) (c : Bs), memB c l = true → c ∈ l
 | [], _, h => by simp [memB] at h
 | y :: ys, c, h => by
  rw [memB] at h
  rcases Bool.or_eq_true_iff.1 h with h | h
  ·have : y = c := by simpa using h
   exact this ▸ List.mem_cons_self
  ·exact List.mem_cons_of_mem _ (memB_mem ys c h)
structure Bl (b : UInt8) : Prop where
 l : letB b = false
 d : digB b = false
 n : (b == 47) = false
 t : ∀ c, memB [c, b] twosL = false
theorem bl32 : Bl 32 := ⟨rfl, rfl, rfl, fun c => by simp [memB, twosL]⟩
theorem bl10 : Bl 10 := ⟨rfl, rfl, rfl, fun c => by simp [memB, twosL]⟩
theorem bl9 : Bl 9 := ⟨rfl, rfl, rfl, fun c => by simp [memB, twosL]⟩
theorem blank0 {c : UInt8} (h : isBlank c = false) (h' : c.toNat ≠ 47) (w : Bs) : blankN false (c :: w) = 0 := by
 have : (c == 47) = false := by
  rw [beq_eq_false_iff_ne]; intro e; subst e; exact h' rfl
 rw [blankN, h, this]; rfl
theorem ones_all : onesL.all (fun c => !letB c && !digB c && !isBlank c) = true := by decide +kernel
theorem relex {t : Tok} (h : GoodT t) {b : UInt8} (hb : Bl b) (w : Bs) : oneN (txtT t ++ b :: w) = some (t.kind, t.text, t.n, (txtT t).length) ∧ blankN false (txtT t ++ b :: w) = 0 ∧ txtT t ≠ [] := by
 obtain ⟨k, x, z, p⟩ := t
 obtain ⟨s, m, h⟩ := h
 rcases s with _ | ⟨c, r⟩
 ·simp [oneN] at h
 rw [oneN] at h
 simp only at h
 cases hl : letB c with
 | true =>
  rw [hl, cond_true] at h
  have ha := run_take (d := false) (c :: r)
  have hrl := run_takeLen (d := false) (c :: r)
  have hh : ∃ x', (c :: r).take (runN false (c :: r)) = c :: x' := by
   rw [runN, show (digB c || (!false && letB c)) = true by simp [hl], cond_true, List.take_succ_cons]; exact ⟨_, rfl⟩
  generalize (c :: r).take (runN false (c :: r)) = y at *
  obtain ⟨x', rfl⟩ := hh
  have hr := run_app hb.l hb.d w (c :: x') ha
  have key : ∀ kk : Int, oneN (c :: x' ++ b :: w) = (bif wordB (c :: x') then some (3, c :: x', 0, (c :: x').length) else bif nameB (c :: x') then some (1, c :: x', 0, (c :: x').length) else none) := by
   intro _
   rw [List.cons_append, oneN]
   simp only [hl, cond_true]
   rw [List.cons_append] at hr
   have e : (c :: (x' ++ b :: w)).take (runN false (c :: (x' ++ b :: w))) = c :: x' := by
    rw [hr, ← List.cons_append, List.take_left']
    rfl
   rw [e, hr]
  have hbk : ∀ w, blankN false (c :: w) = 0 := fun w => blank0 (by
    have := letB_iff.1 hl
    simp only [isBlank]
    simp only [Bool.or_eq_false_iff, beq_eq_false_iff_ne]
    omega) (by have := letB_iff.1 hl; omega) w
  cases hw : wordB (c :: x') with
  | true =>
   rw [hw, cond_true] at h
   simp only [Option.some.injEq, Prod.mk.injEq] at h
   obtain ⟨rfl, rfl, rfl, -⟩ := h
   have e : txtT ⟨3, c :: x', 0, p⟩ = c :: x' := rfl
   rw [e, key 0, hw]
   exact ⟨rfl, hbk _, by simp⟩
  | false =>
   rw [hw, cond_false] at h
   cases hn : nameB (c :: x') with
   | false => rw [hn] at h; cases h
   | true =>
    rw [hn, cond_true] at h
    simp only [Option.some.injEq, Prod.mk.injEq] at h
    obtain ⟨rfl, rfl, rfl, -⟩ := h
    have e : txtT ⟨1, c :: x', 0, p⟩ = c :: x' := rfl
    rw [e, key 0, hw, hn]
    exact ⟨rfl, hbk _, by simp⟩
 | false =>
  rw [hl, cond_false] at h
  cases hd : digB c with
  | true =>
   rw [hd, cond_true] at h
   have ha := run_take (d := true) (c :: r)
   cases hw : wholeN 0 ((c :: r).take (runN true (c :: r))) with
   | none => rw [hw] at h; cases h
   | some v =>
    rw [hw] at h
    simp only at h
    have hv := wholeN_bd _ 0 v (fun c hc => by simpa using ha c hc) (by omega) (by omega) hw
    have h' : (2 : Int) = k ∧ ([] : Bs) = x ∧ v = z := by
     cases hx : ((decide (1 < runN true (c :: r)) && c.toNat == 48) || (decide (runN true (c :: r) < (c :: r).length) && letB (((c :: r)[runN true (c :: r)]?).getD 0))) with
     | true => rw [hx] at h; cases h
     | false =>
      rw [hx] at h
      simp only [cond_false, Option.some.injEq, Prod.mk.injEq] at h
      exact ⟨h.1, h.2.1, h.2.2.1⟩
    obtain ⟨rfl, rfl, rfl⟩ := h'
    obtain ⟨n, rfl⟩ : ∃ n : Nat, v = n := ⟨v.toNat, by omega⟩
    have hn : n ≤ 9223372036854775807 := by omega
    have e : txtT ⟨2, [], (n : Int), p⟩ = decF 20 n [] := rfl
    rw [e]
    have hall := dec_all 20 n [] (by simp)
    have hwd := wholeN_dec 20 n [] (by rw [pow20]; omega) (by omega) hn
    obtain ⟨c', r', hc, h48⟩ := dec_head 20 n [] (by rw [pow20]; omega) (by omega)
    generalize decF 20 n [] = y at *
    subst hc
    have hd' := hall c' List.mem_cons_self
    have hd2 := digB_iff.1 hd'
    have hl' : letB c' = false := by
     rw [← Bool.not_eq_true, letB_iff]; omega
    have hr := run_app (d := true) hb.l hb.d w (c' :: r') (fun c hc => by simp [hall c hc])
    refine ⟨?_, ?_, by simp⟩
    ·rw [List.cons_append, oneN]
     rw [List.cons_append] at hr
     simp only [hl', hd', cond_true, cond_false]
     have e2 : (c' :: (r' ++ b :: w)).take (runN true (c' :: (r' ++ b :: w))) = c' :: r' := by
      rw [hr, ← List.cons_append, List.take_left']
      rfl
     rw [e2, hwd, hr]
     simp only [wholeN]
     have e3 : (c' :: (r' ++ b :: w))[(c' :: r').length]? = some b := by
      rw [← List.cons_append, List.getElem?_append_right (Nat.le_refl _), Nat.sub_self]; rfl
     rw [e3]
     have e4 : (decide (1 < (c' :: r').length) && c'.toNat == 48) = false := by
      rw [Bool.and_eq_false_iff]
      by_cases hc : c'.toNat = 48
      ·left; rw [(h48 hc).2]; rfl
      ·right; simpa using hc
     rw [e4, Option.getD_some, hb.l, Bool.and_false, Bool.or_false, cond_false]
    ·rw [List.cons_append]
     refine blank0 ?_ (by omega) _
     simp only [isBlank, Bool.or_eq_false_iff, beq_eq_false_iff_ne]
     omega
  | false =>
   rw [hd, cond_false] at h
   cases hs : signN (c :: r) == [] with
   | true => rw [hs] at h; cases h
   | false =>
    rw [hs, cond_false] at h
    simp only [Option.some.injEq, Prod.mk.injEq] at h
    obtain ⟨rfl, rfl, rfl, -⟩ := h
    have e : txtT ⟨4, signN (c :: r), 0, p⟩ = signN (c :: r) := rfl
    rw [e]
    unfold signN at hs ⊢
    cases h2 : (decide (2 ≤ (c :: r).length) && memB ((c :: r).take 2) twosL) with
    | true =>
     rw [h2] at hs
     simp only [cond_true] at hs ⊢
     have hm := memB_mem _ _ (Bool.and_eq_true_iff.1 h2).2
     generalize (c :: r).take 2 = y at hm ⊢
     simp only [twosL, List.mem_cons, List.not_mem_nil, or_false] at hm
     rcases hm with rfl | rfl | rfl | rfl | rfl <;> exact ⟨rfl, rfl, by simp⟩
    | false =>
     rw [h2] at hs
     simp only [cond_false] at hs ⊢
     cases h3 : memC c onesL with
     | false => rw [h3] at hs; cases hs
     | true =>
      simp only [cond_true]
      have hm := List.all_eq_true.1 ones_all c (memC_mem _ _ h3)
      simp only [Bool.and_eq_true, Bool.not_eq_true'] at hm
      refine ⟨?_, ?_, by simp⟩
      ·have e5 : signN (c :: b :: w) = [c] := by
        unfold signN
        have : (c :: b :: w).take 2 = [c, b] := rfl
        rw [this, hb.t, Bool.and_false]
        simp [h3]
       rw [List.singleton_append, oneN]
       simp only [hl, hd, cond_false, e5]
       rfl
      ·rw [List.singleton_append, blankN, hm.2, cond_false]
       simp only [List.head?_cons]
       have : (some b == some 47) = false := by simpa using hb.n
       rw [this, Bool.and_false, cond_false]
structure Sep (s : Bs) : Prop where
 h : ∃ b r, s = b :: r ∧ Bl b
 w : ∀ w, blankN false w = 0 → blankN false (s ++ w) = s.length
theorem sep0 : Sep [32] := ⟨⟨_, _, rfl, bl32⟩, fun w h => by simp [blankN, isBlank, h]⟩
theorem sep1 : Sep [10] := ⟨⟨_, _, rfl, bl10⟩, fun w h => by simp [blankN, isBlank, h]⟩
theorem sep2 : Sep [9, 13, 32] := ⟨⟨_, _, rfl, bl9⟩, fun w h => by simp [blankN, isBlank, h]⟩
theorem sep3 : Sep [32, 47, 47, 32, 120, 10] := ⟨⟨_, _, rfl, bl32⟩, fun w h => by simp [blankN, isBlank, h]⟩
theorem join_blank {sep : Bs} (hs : Sep sep) : ∀ L : List Tok, (∀ t ∈ L, GoodT t) → blankN false (joinT sep L) = 0
 | [], _ => rfl
 | t :: r, h => by
  obtain ⟨b, q, rfl, hb⟩ := hs.h
  exact (relex (h t List.mem_cons_self) hb (q ++ joinT (b :: q) r)).2.1
theorem join_len {sep : Bs} (hs : Sep sep) : ∀ L : List Tok, L.length ≤ (joinT sep L).length
 | [] => Nat.le_refl _
 | t :: r => by
  have := join_len hs r
  obtain ⟨b, q, rfl, hb⟩ := hs.h
  simp only [joinT, List.length_append, List.length_cons] at this ⊢
  omega
theorem join_lex {sep : Bs} (hs : Sep sep) : ∀ (L : List Tok) (n p : Nat), (∀ t ∈ L, GoodT t) → L.length < n → lexL n (joinT sep L) p = .inr (placesT sep L p)
 | _, 0, _, _, h => by omega
 | [], n + 1, p, _, _ => rfl
 | t :: r, n + 1, p, hg, hn => by
  have hj := join_blank hs r (fun t ht => hg t (List.mem_cons_of_mem _ ht))
  have hbs := hs.w _ hj
  obtain ⟨b, q, e, hb⟩ := hs.h
  have hr := relex (hg t List.mem_cons_self) hb (q ++ joinT sep r)
  rw [← List.cons_append, ← e] at hr
  obtain ⟨h1, h2, h3⟩ := hr
  have ej : joinT sep (t :: r) = txtT t ++ (sep ++ joinT sep r) := rfl
  rw [ej]
  rcases hx : txtT t ++ (sep ++ joinT sep r) with _ | ⟨c, x⟩
  ·exact absurd (List.append_eq_nil_iff.1 hx).1 h3
  have hd : (c :: x).drop (txtT t).length = sep ++ joinT sep r := by rw [← hx, List.drop_left']; rfl
  rw [hx] at h1
  rw [lexL, h1]
  simp only [hd, hbs]
  rw [List.drop_left' rfl, join_lex hs r n _ (fun t ht => hg t (List.mem_cons_of_mem _ ht)) (by simpa using hn)]
  rfl
theorem places_len (sep : Bs) : ∀ (L : List Tok) (p : Nat), (placesT sep L p).length = L.length + 1
 | [], _ => rfl
 | t :: r, p => by rw [placesT, List.length_cons, places_len sep r, List.length_cons]
theorem places_get {sep : Bs} : ∀ (L : List Tok) (p k : Nat), k ≤ L.length → ∃ t, (placesT sep L p)[k]? = some t ∧ t.pos = ((p + (joinT sep (L.take k)).length : Nat) : Int) ∧ (∀ u, L[k]? = some u → t.kind = u.kind ∧ t.text = u.text ∧ t.n = u.n) ∧ (k = L.length → t.kind = 0 ∧ t.text = [] ∧ t.n = 0)
 | [], p, 0, _ => ⟨_, rfl, rfl, fun u h => by simp at h, fun _ => ⟨rfl, rfl, rfl⟩⟩
 | [], p, k + 1, h => by simp at h
 | t :: r, p, 0, _ => ⟨_, rfl, rfl, fun u h => by cases h; exact ⟨rfl, rfl, rfl⟩, fun h => by simp at h⟩
 | t :: r, p, k + 1, h => by
  obtain ⟨u, h1, h2, h3, h4⟩ := places_get r (p + (txtT t).length + sep.length) k (by simpa using h)
  refine ⟨u, h1, ?_, h3, fun e => h4 (by simpa using e)⟩
  rw [h2]
  simp only [List.take_succ_cons, joinT, List.length_append]
  congr 1
  omega
theorem lexL_good : ∀ (n : Nat) (s : Bs) (p : Nat) (l : List Tok), lexL n s p = .inr l → ∃ L q, l = L ++ [⟨0, [], 0, q⟩] ∧ ∀ t ∈ L, GoodT t
 | 0, _, _, _, h => by cases h
 | n + 1, [], p, l, h => by cases h; exact ⟨[], _, rfl, fun t ht => by simp at ht⟩
 | n + 1, c :: r, p, l, h => by
  rw [lexL] at h
  split at h
  ·cases h
  ·rename_i k t v m ho
   split at h
   ·cases h
   ·rename_i l' hl
    cases h
    obtain ⟨L, q, rfl, hg⟩ := lexL_good n _ _ _ hl
    refine ⟨⟨k, t, v, p⟩ :: L, q, rfl, fun u hu => ?_⟩
    rcases List.mem_cons.1 hu with rfl | hu
    ·exact ⟨_, _, ho⟩
    ·exact hg u hu
theorem join_tokens {sep : Bs} (hs : Sep sep) {L : List Tok} (hg : ∀ t ∈ L, GoodT t) (hl : (joinT sep L).length ≤ 6000) : tokensS (joinT sep L) = (placesT sep L 0, 0, 0) := by
 unfold tokensS
 rw [if_neg (by omega), lexS, join_blank hs L hg, List.drop_zero, join_lex hs L _ _ hg (by have := join_len hs L; omega)]
theorem one_small {s x : Bs} {k z : Int} {m : Nat} (h : oneN s = some (k, x, z, m)) : x.length ≤ s.length := by
 rcases s with _ | ⟨c, r⟩
 ·simp [oneN] at h
 rw [oneN] at h
 cases hl : letB c with
 | true =>
  rw [hl, cond_true] at h
  have ht : ((c :: r).take (runN false (c :: r))).length ≤ (c :: r).length := by rw [List.length_take]; exact Nat.min_le_right _ _
  generalize (c :: r).take (runN false (c :: r)) = y at *
  cases hw : wordB y with
  | true =>
   rw [hw, cond_true] at h
   simp only [Option.some.injEq, Prod.mk.injEq] at h
   rw [← h.2.1]; exact ht
  | false =>
   rw [hw, cond_false] at h
   cases hn : nameB y with
   | false => rw [hn] at h; cases h
   | true =>
    rw [hn, cond_true] at h
    simp only [Option.some.injEq, Prod.mk.injEq] at h
    rw [← h.2.1]; exact ht
 | false =>
  rw [hl, cond_false] at h
  cases hd : digB c with
  | true =>
   rw [hd, cond_true] at h
   cases hw : wholeN 0 ((c :: r).take (runN true (c :: r))) with
   | none => rw [hw] at h; cases h
   | some v =>
    rw [hw] at h
    simp only at h
    cases hx : ((decide (1 < runN true (c :: r)) && c.toNat == 48) || (decide (runN true (c :: r) < (c :: r).length) && letB (((c :: r)[runN true (c :: r)]?).getD 0))) with
    | true => rw [hx] at h; cases h
    | false =>
     rw [hx] at h
     simp only [cond_false, Option.some.injEq, Prod.mk.injEq] at h
     rw [← h.2.1]; simp
  | false =>
   rw [hd, cond_false] at h
   cases hs : signN (c :: r) == [] with
   | true => rw [hs] at h; cases h
   | false =>
    rw [hs, cond_false] at h
    simp only [Option.some.injEq, Prod.mk.injEq] at h
    rw [← h.2.1]
    unfold signN
    cases (decide (2 ≤ (c :: r).length) && memB ((c :: r).take 2) twosL) with
    | true => simp only [cond_true, List.length_take]; exact Nat.min_le_right _ _
    | false =>
     show (bif memC c onesL then [c] else []).length ≤ _
     cases memC c onesL with
     | true => rw [cond_true]; simp
     | false => rw [cond_false]; simp
theorem good_n {t : Tok} (h : GoodT t) (hk : t.kind = 2) : 0 ≤ t.n ∧ t.n ≤ 9223372036854775807 := by
 obtain ⟨s, m, h⟩ := h
 rcases s with _ | ⟨c, r⟩
 ·simp [oneN] at h
 rw [oneN, hk] at h
 cases hl : letB c with
 | true =>
  rw [hl, cond_true] at h
  generalize (c :: r).take (runN false (c :: r)) = y at *
  cases hw : wordB y <;> cases hn : nameB y <;> simp [hw, hn] at h
 | false =>
  rw [hl, cond_false] at h
  cases hd : digB c with
  | true =>
   rw [hd, cond_true] at h
   have ha := run_take (d := true) (c :: r)
   cases hw : wholeN 0 ((c :: r).take (runN true (c :: r))) with
   | none => rw [hw] at h; cases h
   | some v =>
    rw [hw] at h
    simp only at h
    have hv := wholeN_bd _ 0 v (fun c hc => by simpa using ha c hc) (by omega) (by omega) hw
    cases hx : ((decide (1 < runN true (c :: r)) && c.toNat == 48) || (decide (runN true (c :: r) < (c :: r).length) && letB (((c :: r)[runN true (c :: r)]?).getD 0))) with
    | true => rw [hx] at h; cases h
    | false =>
     rw [hx] at h
     simp only [cond_false, Option.some.injEq, Prod.mk.injEq] at h
     rw [← h.2.2.1]; exact hv
  | false =>
   rw [hd, cond_false] at h
   cases hs : signN (c :: r) == [] <;> simp [hs] at h
theorem lexL_small : ∀ (n : Nat) (s : Bs) (p : Nat) (l : List Tok), lexL n s p = .inr l → ∀ t ∈ l, t.text.length ≤ s.length
 | 0, _, _, _, h => by cases h
 | n + 1, [], p, l, h => by cases h; intro t ht; simp only [List.mem_cons, List.not_mem_nil, or_false] at ht; subst ht; exact Nat.le_refl _
 | n + 1, c :: r, p, l, h => by
  rw [lexL] at h
  split at h
  ·cases h
  ·rename_i k t v m ho
   split at h
   ·cases h
   ·rename_i l' hl
    cases h
    intro u hu
    rcases List.mem_cons.1 hu with rfl | hu
    ·exact one_small ho
    ·have := lexL_small n _ _ _ hl u hu
     simp only [List.length_drop] at this
     omega
theorem txt_len (t : Tok) : (txtT t).length ≤ 20 + t.text.length := by
 unfold txtT
 cases (t.kind == 2)
 ·rw [cond_false]; omega
 ·rw [cond_true]
  have := dec_len 20 t.n.toNat []
  simp only [List.length_nil] at this
  omega
end Go.Proofs.YtgcamjgnfeajiaaDoor

namespace Go.Proofs.YtgcamjgnfeajiaaDoor
open Go.Ev
set_option maxRecDepth 100000
noncomputable section
def s5_j1 (G : CallT) (N : Nat) (H : AHeap) : O :=
 xcall H (G 12 [] H) fun x139 h1 =>
 some (x139, h1)
theorem s5_j1_eq (G : CallT) (N : Nat) : ∀ R H, codeC P G N (Code.snd (Code.snd (Code.snd (Code.snd (Code.snd (Code.snd (Code.snd (Code.snd (Code.snd (Code.snd (bodyOf Tryd.f5))))))))))) (rC Tryd.f5) [] (rC Tryd.f5) R H = s5_j1 G N H := by
 refine via_trans (via_leaf _) fun R H => ?_
 delta s5_j1
 kernel_rfl
def s5_b2 (G : CallT) (N : Nat) (L2 : AV → AV → AV → AHeap → O) (x5 x10 x12 : AV) (H : AHeap) : O :=
 xlen P .len [22] [x5] H fun x80 =>
 xb (fbin P .lss 3 false x12 x80) fun x81 =>
 xif (some x81) (xb (aindexAddr P 22 x10 x12) fun x86 =>
 xb (afieldAddr P 34 x86 0) fun x87 =>
 xb (aload P H 3 x87) fun x88 =>
 xb (aindexAddr P 22 x5 x12) fun x91 =>
 xb (afieldAddr P 34 x91 0) fun x92 =>
 xb (aload P H 3 x92) fun x93 =>
 xb (fbin P .neq 3 false x88 x93) fun x94 =>
 xg x94 false H (qv x10) fun x96 h1 =>
 xg x94 false h1 (qv x12) fun x97 h2 =>
 xg x94 false h2 (qp (aindexAddr P 22 x96 x97)) fun x98 h3 =>
 xg x94 false h3 (qp (afieldAddr P 34 x98 1)) fun x99 h4 =>
 xg x94 false h4 (qr (aload P h4 9 x99)) fun x100 h5 =>
 xg x94 false h5 (qv x5) fun x101 h6 =>
 xg x94 false h6 (qv x12) fun x102 h7 =>
 xg x94 false h7 (qp (aindexAddr P 22 x101 x102)) fun x103 h8 =>
 xg x94 false h8 (qp (afieldAddr P 34 x103 1)) fun x104 h9 =>
 xg x94 false h9 (qr (aload P h9 9 x104)) fun x105 h10 =>
 xg x94 false h10 (qp (fbin P .neq 9 false x100 x105)) fun x106 h11 =>
 xb (pickOf x94 (some (.bool true)) (some x106)) fun x107 =>
 xg x107 false h11 (qv x10) fun x109 h12 =>
 xg x107 false h12 (qv x12) fun x110 h13 =>
 xg x107 false h13 (qp (aindexAddr P 22 x109 x110)) fun x111 h14 =>
 xg x107 false h14 (qp (afieldAddr P 34 x111 2)) fun x112 h15 =>
 xg x107 false h15 (qr (aload P h15 3 x112)) fun x113 h16 =>
 xg x107 false h16 (qv x5) fun x114 h17 =>
 xg x107 false h17 (qv x12) fun x115 h18 =>
 xg x107 false h18 (qp (aindexAddr P 22 x114 x115)) fun x116 h19 =>
 xg x107 false h19 (qp (afieldAddr P 34 x116 2)) fun x117 h20 =>
 xg x107 false h20 (qr (aload P h20 3 x117)) fun x118 h21 =>
 xg x107 false h21 (qp (fbin P .neq 3 false x113 x118)) fun x119 h22 =>
 xb (pickOf x107 (some (.bool true)) (some x119)) fun x120 =>
 xg x120 false h22 (qv x12) fun x122 h23 =>
 xg x120 false h23 (qp (fbin P .gtr 3 true x122 (.int .i64 0))) fun x123 h24 =>
 xg x120 false h24 (qv x123) fun x124 h25 =>
 xg x124 true h25 (qv x10) fun x125 h26 =>
 xg x124 true h26 (qv x12) fun x126 h27 =>
 xg x124 true h27 (qp (aindexAddr P 22 x125 x126)) fun x127 h28 =>
 xg x124 true h28 (qp (afieldAddr P 34 x127 3)) fun x128 h29 =>
 xg x124 true h29 (qr (aload P h29 3 x128)) fun x129 h30 =>
 xg x124 true h30 (qv x10) fun x130 h31 =>
 xg x124 true h31 (qv x12) fun x131 h32 =>
 xg x124 true h32 (qp (fbin P .sub 3 true x131 (.int .i64 1))) fun x132 h33 =>
 xg x124 true h33 (qp (aindexAddr P 22 x130 x132)) fun x133 h34 =>
 xg x124 true h34 (qp (afieldAddr P 34 x133 3)) fun x134 h35 =>
 xg x124 true h35 (qr (aload P h35 3 x134)) fun x135 h36 =>
 xg x124 true h36 (qp (fbin P .leq 3 false x129 x135)) fun x136 h37 =>
 xg x120 false h37 (qp (pickOf x124 (some x136) (some (.bool false)))) fun x137 h38 =>
 xb (pickOf x120 (some (.bool true)) (some x137)) fun x138 =>
 xif (some x138) (some ((.bool false), h38)) (xb (fbin P .add 3 true x12 (.int .i64 1)) fun x83 =>
 L2 x5 x10 x83 h38)) (s5_j1 G N H)
def s5_l2 (G : CallT) (N : Nat) : Nat → AV → AV → AV → AHeap → O
 | 0, _, _, _, _ => none
 | n + 1, x5, x10, x12, H => s5_b2 G N (s5_l2 G N n) x5 x10 x12 H
theorem s5_b2_eq (G : CallT) (N : Nat) (L2 : AV → AV → AV → AHeap → O) : ∀ R H, codeC P G N (Code.fst (Code.fst (Code.snd (Code.fst (Code.snd (Code.snd (Code.snd (Code.snd (Code.snd (Code.snd (Code.snd (Code.snd (Code.snd (bodyOf Tryd.f5)))))))))))))) (fun R H => L2 (R 5) (R 10) (R 12) H) [(2, (fun R H => s5_j1 G N H))] (rC Tryd.f5) R H = s5_b2 G N L2 (R 5) (R 10) (R 12) H := by
 refine via_trans (via_leaf _) fun R H => ?_
 delta s5_b2
 generalize s5_j1 G N = J0
 revert J0
 refine id ?_
 intro J0
 kernel_rfl
def s5_j0 (G : CallT) (N : Nat) (x5 x8 : AV) (H : AHeap) : O :=
 xlen P .len [9] [x8] H fun x48 =>
 xb (fbin P .gtr 3 true x48 (.int .i64 6000)) fun x49 =>
 xif (some x49) (xcall H (G 12 [] H) fun x50 h1 =>
 some (x50, h1)) (xcall H (G 9 [x8] H) fun x53 h1 =>
 xb (aextract x53 0) fun x54 =>
 xb (aextract x53 1) fun x55 =>
 xalloc h1 [(.int .i64 0), (.int .i64 0)] fun x11 h2 =>
 xstore h2 (astore P h2 25 x11 x55) fun h3 =>
 xb (afieldAddr P 25 x11 0) fun x56 =>
 xb (aload P h3 23 x56) fun x57 =>
 xb (fbin P .neq 23 true x57 (.int .i64 0)) fun x58 =>
 xg x58 false h3 (qv x54) fun x60 h4 =>
 xg x58 false h4 (fun q => xboth (abuiltin P .empty .len [22] [x60]) (abuiltin P h4 .len [22] [x60]) q) fun x61 h5 =>
 xg x58 false h5 (qv x5) fun x62 h6 =>
 xg x58 false h6 (fun q => xboth (abuiltin P .empty .len [22] [x62]) (abuiltin P h6 .len [22] [x62]) q) fun x63 h7 =>
 xg x58 false h7 (qp (fbin P .neq 3 false x61 x63)) fun x64 h8 =>
 xb (pickOf x58 (some (.bool true)) (some x64)) fun x65 =>
 xg x65 false h8 (qv x54) fun x67 h9 =>
 xg x65 false h9 (qv x54) fun x68 h10 =>
 xg x65 false h10 (fun q => xboth (abuiltin P .empty .len [22] [x68]) (abuiltin P h10 .len [22] [x68]) q) fun x69 h11 =>
 xg x65 false h11 (qp (fbin P .sub 3 true x69 (.int .i64 1))) fun x70 h12 =>
 xg x65 false h12 (qp (aindexAddr P 22 x67 x70)) fun x71 h13 =>
 xg x65 false h13 (qp (afieldAddr P 34 x71 3)) fun x72 h14 =>
 xg x65 false h14 (qr (aload P h14 3 x72)) fun x73 h15 =>
 xg x65 false h15 (qv x8) fun x74 h16 =>
 xg x65 false h16 (fun q => xboth (abuiltin P .empty .len [9] [x74]) (abuiltin P h16 .len [9] [x74]) q) fun x75 h17 =>
 xg x65 false h17 (qp (fbin P .neq 3 false x73 x75)) fun x76 h18 =>
 xb (pickOf x65 (some (.bool true)) (some x76)) fun x77 =>
 xif (some x77) (some ((.bool false), h18)) (s5_l2 G N N x5 x54 (.int .i64 0) h18))
theorem s5_j0_eq (G : CallT) (N : Nat) : ∀ R H, codeC P G N (Code.snd (Code.snd (Code.snd (Code.snd (Code.snd (Code.snd (bodyOf Tryd.f5))))))) (rC Tryd.f5) [] (rC Tryd.f5) R H = s5_j0 G N (R 5) (R 8) H := by
 refine via_trans ((via_seq (by kernel_rfl) ((via_seq (by kernel_rfl) ((via_seq (by kernel_rfl) ((via_seq (by kernel_rfl) (s5_j1_eq G N) ((via_seq (by kernel_rfl) ((via_block (by kernel_rfl) ((via_loop (k := fun m R H => s5_l2 G N m (R 5) (R 10) (R 12) H) (by kernel_rfl) (fun R H => by kernel_rfl) (fun m => s5_b2_eq G N (s5_l2 G N m)))))) (via_leaf _))))) (via_leaf _))) (via_leaf _))) (via_leaf _))) fun R H => ?_
 delta s5_j0
 generalize s5_l2 G N N = J0
 revert J0
 refine id ?_
 intro J0
 kernel_rfl
def s5_b3 (G : CallT) (N : Nat) (L3 : AV → AV → AV → AV → AHeap → O) (x5 x7 : AV) (x8 x9 : AV) (H : AHeap) : O :=
 xlen P .len [22] [x5] H fun x33 =>
 xb (fbin P .sub 3 true x33 (.int .i64 1)) fun x34 =>
 xb (fbin P .lss 3 false x9 x34) fun x35 =>
 xif (some x35) (xb (aindexAddr P 22 x5 x9) fun x41 =>
 xb (aload P H 34 x41) fun x42 =>
 xcall H (G 17 [x42] H) fun x43 h1 =>
 xb (fbin P .add 9 false x8 x43) fun x44 =>
 xb (fbin P .add 9 false x44 x7) fun x46 =>
 xb (fbin P .add 3 true x9 (.int .i64 1)) fun x37 =>
 L3 x5 x7 x46 x37 h1) (s5_j0 G N x5 x8 H)
def s5_l3 (G : CallT) (N : Nat) : Nat → AV → AV → AV → AV → AHeap → O
 | 0, _, _, _, _, _ => none
 | n + 1, x5, x7, x8, x9, H => s5_b3 G N (s5_l3 G N n) x5 x7 x8 x9 H
theorem s5_b3_eq (G : CallT) (N : Nat) (L3 : AV → AV → AV → AV → AHeap → O) : ∀ R H, codeC P G N (Code.fst (Code.fst (Code.snd (Code.fst (Code.snd (Code.snd (Code.snd (Code.snd (Code.snd (bodyOf Tryd.f5)))))))))) (fun R H => L3 (R 5) (R 7) (R 8) (R 9) H) [(0, (fun R H => s5_j0 G N (R 5) (R 8) H))] (rC Tryd.f5) R H = s5_b3 G N L3 (R 5) (R 7) (R 8) (R 9) H := by
 refine via_trans (via_leaf _) fun R H => ?_
 delta s5_b3
 generalize s5_j0 G N = J0
 revert J0
 refine id ?_
 intro J0
 kernel_rfl
def s5 (G : CallT) (N : Nat) (x0 x1 : AV) (H : AHeap) : O :=
 xcall H (G 10 [x0] H) fun x15 h1 =>
 xb (aextract x15 0) fun x16 =>
 xb (aextract x15 1) fun x17 =>
 xalloc h1 [(.int .i64 0), (.int .i64 0)] fun x6 h2 =>
 xstore h2 (astore P h2 25 x6 x17) fun h3 =>
 xlen P .len [9] [x0] h3 fun x19 =>
 xb (fbin P .gtr 3 true x19 (.int .i64 1000)) fun x20 =>
 xg x20 false h3 (qp (afieldAddr P 25 x6 0)) fun x22 h4 =>
 xg x20 false h4 (qr (aload P h4 23 x22)) fun x23 h5 =>
 xg x20 false h5 (qp (fbin P .neq 23 true x23 (.int .i64 0))) fun x24 h6 =>
 xb (pickOf x20 (some (.bool true)) (some x24)) fun x25 =>
 xif (some x25) (some ((.bool true), h6)) (xmake h6 (some (.sl (h6).next 0 4 1 (some 4), .row false 1 [[(.str [32])], [(.str [10])], [(.str [9, 13, 32])], [(.str [32, 47, 47, 32, 120, 10])]])) fun x26 h7 =>
 xb (fbin P .and 3 true x1 (.int .i64 3)) fun x28 =>
 xb (aindexAddr P 31 x26 x28) fun x29 =>
 xb (aload P h7 9 x29) fun x30 =>
 s5_l3 G N N x16 x30 (.str []) (.int .i64 0) h7)
theorem s5_eq (G : CallT) (N : Nat) (x0 : AV) (x1 : AV) (H : AHeap) : cF Tryd.f5 G N (argsF [x0, x1]) H = s5 G N x0 x1 H := by
 refine via_top (A := cF Tryd.f5 G N) ((via_seq (by kernel_rfl) ((via_seq (by kernel_rfl) ((via_seq (by kernel_rfl) ((via_seq (by kernel_rfl) ((via_seq (by kernel_rfl) ((via_seq (by kernel_rfl) (s5_j0_eq G N) ((via_seq (by kernel_rfl) ((via_block (by kernel_rfl) ((via_loop (k := fun m R H => s5_l3 G N m (R 5) (R 7) (R 8) (R 9) H) (by kernel_rfl) (fun R H => by kernel_rfl) (fun m => s5_b3_eq G N (s5_l3 G N m)))))) (via_leaf _))))) (via_leaf _))) (via_leaf _))) (via_leaf _))) (via_leaf _))) (via_leaf _))) ?_
 delta s5
 generalize s5_l3 G N N = J0
 revert J0
 refine id ?_
 intro J0
 kernel_rfl
theorem run5 (N : Nat) {x0 x1 : AV} {H : AHeap} {r : AV × AHeap} (h : s5 (evw P orc) N x0 x1 H = some r) : evw P orc 5 [x0, x1] H = some r :=
 runF (by kernel_rfl) Tryd.func5 (by kernel_rfl) (by kernel_rfl) (by kernel_rfl) ((s5_eq (evw P orc) N x0 x1 H).trans h)
end
end Go.Proofs.YtgcamjgnfeajiaaDoor
namespace Go.Proofs.YtgcamjgnfeajiaaDoor
open Go.Ev
theorem rem3 (t : Bool) (a : Nat) : fbin P .rem 3 t (.int .i64 a) (.int .i64 10) = some (.int .i64 ((a % 10 : Nat) : Int)) := by
 have : ((a : Int)).tmod 10 = ((a % 10 : Nat) : Int) := by rw [Int.tmod_eq_emod_of_nonneg (by omega)]; omega
 simp [fbin, intBin, this]
theorem quo3n (t : Bool) (a : Nat) (h : a ≤ 9223372036854775807) : fbin P .quo 3 t (.int .i64 a) (.int .i64 10) = some (.int .i64 ((a / 10 : Nat) : Int)) := by
 rw [quo3]
 have : ((a : Int)).tdiv 10 = ((a / 10 : Nat) : Int) := by rw [Int.tdiv_eq_ediv_of_nonneg (by omega)]; omega
 rw [this]
 have w : IntKind.i64.wrap ((a / 10 : Nat) : Int) = ((a / 10 : Nat) : Int) := IntWalk.i64_in _ ⟨by omega, by omega⟩
 rw [w]
theorem cv35 (n : Int) : aconv P 3 5 (.int .i64 n) = some (.int .u8 (IntKind.u8.wrap n)) := by kernel_rfl
theorem cv47 (l i n e : Nat) (c : Option Nat) : aconv P 47 9 (.sl l i n e c) = none := by kernel_rfl
theorem sl47_1 (l : Nat) (k : Int) : sliceOf P l 47 1 [(0, .int .u8 k)] = some (.sl l 0 1 1 (some 1), .row false 1 [[.int .u8 k]]) := by kernel_rfl
theorem un47 : P.underlying 47 = some (.slice 5) := by kernel_rfl
theorem un5 : P.underlying 5 = some (.int .u8) := by kernel_rfl
theorem un9' : P.underlying 9 = some .string := by kernel_rfl
theorem by47 {H : AHeap} {L : Nat} {k : Int} {cap : Option Nat} {ro : Bool} (hg : H.get L = some (.row ro 1 [[.int .u8 k]])) : abytesToStr P H 47 9 (.sl L 0 1 1 cap) = some (.str [UInt8.ofNat k.toNat]) := by
 simp [abytesToStr, un47, un5, un9', aels, hg, bytesOf, Go.Ev.byteOf]
theorem and3 (h : Int) : ∃ k : Nat, k < 4 ∧ fbin P .and 3 true (.int .i64 h) (.int .i64 3) = some (.int .i64 (k : Int)) := by
 refine ⟨(BitVec.ofInt 64 h &&& BitVec.ofInt 64 3).toNat, ?_, ?_⟩
 ·rw [BitVec.toNat_and]
  exact Nat.lt_of_le_of_lt Nat.and_le_right (by decide)
 ·have hb : (BitVec.ofInt 64 h &&& BitVec.ofInt 64 3).toNat < 4 := by
   rw [BitVec.toNat_and]
   exact Nat.lt_of_le_of_lt Nat.and_le_right (by decide)
  have e : fbin P .and 3 true (.int .i64 h) (.int .i64 3) = some (.int .i64 (IntKind.i64.wrap ((BitVec.ofInt 64 h &&& BitVec.ofInt 64 3).toNat : Int))) := rfl
  rw [e, wrap_i64 (by omega) (by omega)]
theorem bx34 (l : Nat) (t : Tok) : boxOf l t.v = some (.ptr l 0 0, .row false 4 [t.cells]) := by cases t; rfl
theorem dec_loop {H0 : AHeap} {N : Nat} : ∀ (f n : Nat) (a : Bs) (m : Nat) (H : AHeap), (0 < n ∨ a = []) → n < 10 ^ f → 0 < f → n ≤ 9223372036854775807 → f < m → a.length + f ≤ 100 → Pur H0 H → W (s17_l2 (evw P orc) N m (.str a) (.int .i64 (n : Int)) H) fun v H' => v = .str (decF f n a) ∧ Pur H0 H'
 | 0, _, _, _, _, _, _, h, _, _, _, _ => by omega
 | _, _, _, 0, _, _, _, _, _, h, _, _ => by omega
 | f + 1, n, a, m + 1, H, hc, hn, _, hm, hf, ha, pp => by
  have hcond : xif (pickOf (.bool (decide ((0 : Int) < (n : Int)))) (some (.bool true)) (some (.bool (a == [])))) = xif (some (.bool true)) := by
   by_cases h0 : 0 < n
   ·rw [decide_eq_true (by omega)]; rfl
   ·rw [decide_eq_false (by omega)]; rw [hc.resolve_left h0]; rfl
  have hu : IntKind.i64.wrap ((48 : Int) + ((n % 10 : Nat) : Int)) = ((48 + n % 10 : Nat) : Int) := by rw [wrap_i64 (by omega) (by omega)]; omega
  have hu8 : IntKind.u8.wrap ((48 + n % 10 : Nat) : Int) = ((48 + n % 10 : Nat) : Int) := wrap_u8 (by omega) (by omega)
  have hq := quo3n true n hm
  have hr := rem3 true n
  have ea : fbin P .add 9 false (.str [UInt8.ofNat (48 + n % 10)]) (.str a) = some (.str (UInt8.ofNat (48 + n % 10) :: a)) := fbin_sadd _ _ _ _ (by simp; omega)
  have hgp := AHeap.get_push_same H (.row false 1 [[.int .u8 ((48 + n % 10 : Nat) : Int)]])
  have hby := by47 (cap := some 1) hgp
  rw [Int.toNat_natCast] at hby
  have pp' := pp.then_push (.row false 1 [[.int .u8 ((48 + n % 10 : Nat) : Int)]])
  have step : W (xb (fbin P .rem 3 true (.int .i64 (n : Int)) (.int .i64 10)) fun x19 =>
 xb (fbin P .add 3 true (.int .i64 48) x19) fun x20 =>
 xconv P 3 5 x20 H fun x21 =>
 xmake H (sliceOf P (H).next 47 1 [(0, x21)]) fun x22 h3 =>
 xconv P 47 9 x22 h3 fun x23 =>
 xb (fbin P .add 9 false x23 (.str a)) fun x25 =>
 xb (fbin P .quo 3 true (.int .i64 (n : Int)) (.int .i64 10)) fun x17 =>
 s17_l2 (evw P orc) N m x25 x17 h3) fun v H' => v = .str (decF (f + 1) n a) ∧ Pur H0 H' := by
   simp -implicitDefEqProofs (disch := first | assumption | omega | (simp only [nxB]; omega) | (simp only [oneB])) only [xlen, evB, binB, hr, hu, xconv, cv35, hu8, sl47_1, cv47, hby, ea, hq]
   rw [decF]
   by_cases h0 : n / 10 = 0
   ·rw [if_pos h0, h0]
    cases m with
    | zero => omega
    | succ m =>
     have z0 : ((0 : Nat) : Int) = 0 := rfl
     have zl : ¬ ((0 : Int) < 0) := by omega
     have zc : (UInt8.ofNat (48 + n % 10) :: a == []) = false := rfl
     simp -implicitDefEqProofs (disch := first | assumption | omega | (simp only [nxB]; omega) | (simp only [oneB])) only [s17_l2, s17_b2, s17_j1, xlen, AV.cells, splice, aload, astore, Nat.reduceAdd, Nat.reduceLeDiff, reduceIte, allB, z0, zl, decide_false, zc]
     exact W_some.2 ⟨rfl, pp'⟩
   ·rw [if_neg h0]
    have hf0 : 0 < f := by
     cases f with
     | zero => exfalso; simp at hn; omega
     | succ f => omega
    exact dec_loop f (n / 10) _ m _ (.inl (by omega)) (by rw [Nat.pow_succ] at hn; omega) hf0 (by omega) (by omega) (by simp; omega) pp'
  by_cases h0 : (0 : Int) < (n : Int)
  ·simp -implicitDefEqProofs (disch := first | assumption | omega | (simp only [nxB]; omega) | (simp only [oneB])) only [s17_l2, s17_b2, xlen, evB, binB, h0, decide_true]
   exact step
  ·have ha0 : a = [] := hc.resolve_left (by omega)
   have hae : (a == []) = true := by rw [ha0]; rfl
   simp -implicitDefEqProofs (disch := first | assumption | omega | (simp only [nxB]; omega) | (simp only [oneB])) only [s17_l2, s17_b2, xlen, evB, binB, h0, decide_false, hae]
   exact step
theorem text_spec {H : AHeap} (t : Tok) (h : t.kind = 2 → 0 ≤ t.n ∧ t.n ≤ 9223372036854775807) : W (evw P orc 17 [t.v] H) fun v H' => v = .str (txtT t) ∧ Pur H H' := by
 refine W_of (fun _ => run17 30) ?_
 have g := AHeap.get_push_same H (.row false 4 [t.cells])
 have hb := bx34 H.next t
 obtain ⟨k, x, z, p⟩ := t
 simp only [Tok.cells] at g hb
 by_cases hk : k = 2
 ·subst hk
  obtain ⟨h0, h1⟩ := h rfl
  obtain ⟨n, rfl⟩ : ∃ n : Nat, z = n := ⟨z.toNat, by simp only at h0; omega⟩
  simp only at h1
  have z2 : ((2 : Int) == 2) = true := rfl
  simp -implicitDefEqProofs (disch := first | assumption | omega | (simp only [nxB]; omega) | (simp only [oneB])) only [s17_j0, s17, xlen, AV.cells, splice, aload, astore, Nat.reduceAdd, Nat.reduceLeDiff, reduceIte, allB, hb, g, z2]
  refine (dec_loop (H0 := H) 20 n [] 30 _ (.inr rfl) (by rw [pow20]; omega) (by omega) (by omega) (by omega) (by simp) (Pur.push _ _)).mono ?_
  rintro v H' ⟨rfl, q⟩
  exact ⟨rfl, q⟩
 ·have z2 : (k == 2) = false := by simpa using hk
  simp -implicitDefEqProofs (disch := first | assumption | omega | (simp only [nxB]; omega) | (simp only [oneB])) only [s17_j0, s17, xlen, AV.cells, splice, aload, astore, Nat.reduceAdd, Nat.reduceLeDiff, reduceIte, allB, hb, g, z2]
  exact W_some.2 ⟨by simp only [txtT, z2, cond_false], Pur.push _ _⟩
def sepsL : List Bs := [[32], [10], [9, 13, 32], [32, 47, 47, 32, 120, 10]]
theorem seps_ok {k : Nat} (hk : k < 4) : Sep (sepsL[k]?.getD []) ∧ (sepsL[k]?.getD []).length ≤ 6 := by
 rcases k with _ | _ | _ | _ | k
 ·exact ⟨sep0, by decide⟩
 ·exact ⟨sep1, by decide⟩
 ·exact ⟨sep2, by decide⟩
 ·exact ⟨sep3, by decide⟩
 ·omega
theorem join_bd {sep : Bs} (hs : sep.length ≤ 6) : ∀ L : List Tok, (∀ t ∈ L, t.text.length ≤ 1000) → (joinT sep L).length ≤ L.length * 1026
 | [], _ => by simp [joinT]
 | t :: r, h => by
  have h1 := join_bd hs r (fun t ht => h t (List.mem_cons_of_mem _ ht))
  have h2 := h t List.mem_cons_self
  have h3 := txt_len t
  simp only [joinT, List.length_append, List.length_cons] at h1 ⊢
  omega
theorem join_snoc (sep : Bs) (t : Tok) : ∀ L : List Tok, joinT sep (L ++ [t]) = joinT sep L ++ (txtT t ++ sep)
 | [] => by simp [joinT]
 | u :: r => by rw [List.cons_append, joinT, join_snoc sep t r, joinT]; simp only [List.append_assoc]
theorem back_loop3 {Q : AV → AHeap → Prop} {G : CallT} (hG : G 17 = evw P orc 17) {N : Nat} {H0 : AHeap} {sep : Bs} (hs : sep.length ≤ 6) {L : List Tok} (hL : L.length ≤ 2000) (hg : ∀ t ∈ L, GoodT t) (hsm : ∀ t ∈ L, t.text.length ≤ 1000) {q : Int} {v : AV} (hQ : ∀ H, Pur H0 H → W (s5_j0 G N v (.str (joinT sep L)) H) Q) (ht : TokSl H0 v (L ++ [⟨0, [], 0, q⟩])) :
  ∀ (c j n : Nat) (H : AHeap), j + c = L.length → c < n → Pur H0 H → W (s5_l3 G N n v (.str sep) (.str (joinT sep (L.take j))) (.int .i64 (j : Int)) H) Q
 | _, _, 0, _, _, hn, _ => by omega
 | 0, j, n + 1, H, hj, hn, pp => by
  obtain rfl : j = L.length := by omega
  have hl5 := fun H' => ht.len5 H'
  have w1 : IntKind.i64.wrap (((L ++ [(⟨0, [], 0, q⟩ : Tok)]).length : Int) - 1) = (L.length : Int) := by
   rw [List.length_append, List.length_singleton, wrap_i64 (by omega) (by omega)]; omega
  have h1 : ¬ ((L.length : Int) < (L.length : Int)) := by omega
  rw [List.take_length]
  simp -implicitDefEqProofs (disch := first | assumption | omega | (simp only [nxB]; omega) | (simp only [oneB])) only [s5_l3, s5_b3, xlen, xlen, evB, binB, hl5, w1, h1, decide_false]
  exact hQ H pp
 | c + 1, j, n + 1, H, hj, hn, pp => by
  have hl5 := fun H' => ht.len5 H'
  have w1 : IntKind.i64.wrap (((L ++ [(⟨0, [], 0, q⟩ : Tok)]).length : Int) - 1) = (L.length : Int) := by
   rw [List.length_append, List.length_singleton, wrap_i64 (by omega) (by omega)]; omega
  have h1 : ((j : Int) < (L.length : Int)) := by omega
  have hlt : j < L.length := by omega
  have h0 : (0 : Int) ≤ (j : Int) := by omega
  have hnn : ((j : Int)).toNat = j := by omega
  have hin : (j : Int) < ((L ++ [(⟨0, [], 0, q⟩ : Tok)]).length : Int) := by simp; omega
  rcases id ht with ⟨_, e⟩ | ⟨l, i, cap, rfl, e⟩
  ·simp at e
  obtain ⟨ro, els, g1, e1⟩ := e.resolve_left (by simp)
  have q1 := e1 j L[j] (by rw [List.getElem?_append_left hlt]; exact List.getElem?_eq_getElem hlt)
  obtain ⟨t, ht'⟩ : ∃ t, t = L[j] := ⟨_, rfl⟩
  rw [← ht'] at q1
  have htm : t ∈ L := by rw [ht']; exact List.getElem_mem _
  have gH := pp.get g1
  have tk : L.take (j + 1) = L.take j ++ [t] := by rw [List.take_succ_eq_append_getElem hlt, ht']
  have hb1 := join_bd hs (L.take j) (fun t ht => hsm t (List.mem_of_mem_take ht))
  rw [List.length_take] at hb1
  have hb3 := txt_len t
  have hb4 := hsm t htm
  have hmin : Nat.min j L.length * 1026 ≤ 2000 * 1026 := Nat.mul_le_mul_right _ (Nat.le_trans (Nat.min_le_right _ _) hL)
  have hb1' : (joinT sep (L.take j)).length ≤ 2000 * 1026 := Nat.le_trans hb1 hmin
  have ea : fbin P .add 9 false (.str (joinT sep (L.take j))) (.str (txtT t)) = some (.str (joinT sep (L.take j) ++ txtT t)) := fbin_sadd _ _ _ _ (by omega)
  have eb : fbin P .add 9 false (.str (joinT sep (L.take j) ++ txtT t)) (.str sep) = some (.str (joinT sep (L.take (j + 1)))) := by
   rw [fbin_sadd _ _ _ _ (by rw [List.length_append]; omega), tk, join_snoc, List.append_assoc]
  have hx := ia22 (cap := cap) (l := l) (i := i) h0 hin
  have hld : aload P H 34 (.ptr l (i + j) 0) = some t.v := by
   have := ld_agg ta34 ts34 gH q1 (c := 0) (by decide)
   rw [this]; cases t; rfl
  rw [hnn] at hx
  simp -implicitDefEqProofs (disch := first | assumption | omega | (simp only [nxB]; omega) | (simp only [oneB])) only [s5_l3, s5_b3, xlen, xlen, evB, binB, hl5, w1, h1, decide_true, hx, hld, hG]
  refine W_call (text_spec t (good_n (hg t htm))) ?_
  rintro _ H1 ⟨rfl, p1⟩
  refine ⟨p1.1, ?_⟩
  simp -implicitDefEqProofs (disch := first | assumption | omega | (simp only [nxB]; omega) | (simp only [oneB])) only [xlen, evB, binB, ea, eb, wn1]
  exact back_loop3 hG hs hL hg hsm hQ ht c (j + 1) n H1 (by omega) (by omega) (pp.trans p1)
theorem back_loop2 {Q : AV → AHeap → Prop} {G : CallT} {N : Nat} {H : AHeap} {sep : Bs} (hsep : 1 ≤ sep.length) {L : List Tok} {q : Int} {v w : AV} (hL : L.length ≤ 2000) (hbd : (joinT sep L).length ≤ 10000) (hQ : W (s5_j1 G N H) Q) (ht : TokSl H v (L ++ [⟨0, [], 0, q⟩])) (hw : TokSl H w (placesT sep L 0)) :
  ∀ (c j n : Nat), j + c = L.length + 1 → c < n → W (s5_l2 G N n v w (.int .i64 (j : Int)) H) Q
 | _, _, 0, _, hn => by omega
 | 0, j, n + 1, hj, hn => by
  obtain rfl : j = L.length + 1 := by omega
  have hl5 := fun H' => ht.len5 H'
  have hll : (L ++ [(⟨0, [], 0, q⟩ : Tok)]).length = L.length + 1 := by simp
  rw [hll] at hl5
  have h1 : ¬ (((L.length + 1 : Nat) : Int) < ((L.length + 1 : Nat) : Int)) := by omega
  simp -implicitDefEqProofs (disch := first | assumption | omega | (simp only [nxB]; omega) | (simp only [oneB])) only [s5_l2, s5_b2, xlen, xlen, evB, binB, hl5, h1, decide_false]
  exact hQ
 | c + 1, j, n + 1, hj, hn => by
  have hl5 := fun H' => ht.len5 H'
  have hll : (L ++ [(⟨0, [], 0, q⟩ : Tok)]).length = L.length + 1 := by simp
  rw [hll] at hl5
  have hlw := places_len sep L 0
  have h1 : ((j : Int) < ((L.length + 1 : Nat) : Int)) := by omega
  have h0 : (0 : Int) ≤ (j : Int) := by omega
  have hnn : ((j : Int)).toNat = j := by omega
  rcases id ht with ⟨_, e⟩ | ⟨l, i, cap, rfl, e⟩
  ·simp at e
  obtain ⟨ro, els, g1, e1⟩ := e.resolve_left (by simp)
  rcases id hw with ⟨_, e⟩ | ⟨l', i', cap', rfl, e⟩
  ·rw [e] at hlw; simp at hlw
  obtain ⟨ro', els', g2, e2⟩ := e.resolve_left (by intro e; rw [e] at hlw; simp at hlw)
  obtain ⟨b, b1, b2, b3, b4⟩ := places_get (sep := sep) L 0 j (by omega)
  have q2 := e2 j b b1
  obtain ⟨a, a1, a2, a3, a4⟩ : ∃ a, (L ++ [(⟨0, [], 0, q⟩ : Tok)])[j]? = some a ∧ b.kind = a.kind ∧ b.text = a.text ∧ b.n = a.n := by
   by_cases hlt : j < L.length
   ·have e := List.getElem?_eq_getElem hlt
    refine ⟨L[j], by rw [List.getElem?_append_left hlt]; exact e, b3 _ e⟩
   ·obtain rfl : j = L.length := by omega
    refine ⟨_, by rw [List.getElem?_append_right (Nat.le_refl _), Nat.sub_self]; rfl, b4 rfl⟩
  have q1 := e1 j a a1
  simp only [Tok.cells] at q1 q2
  rw [hll, hlw]
  have x1 := ia22 (cap := cap) (l := l) (i := i) (n := L.length + 1) h0 h1
  have x2 := ia22 (cap := cap') (l := l') (i := i') (n := L.length + 1) h0 h1
  rw [hnn] at x1 x2
  have back := back_loop2 hsep hL hbd hQ ht hw c (j + 1) n (by omega) (by omega)
  rw [hll, hlw] at back
  rcases j with _ | j
  ·have z0 : ((0 : Nat) : Int) = 0 := rfl
   rw [z0] at h1 x1 x2 ⊢
   simp only [Nat.add_zero] at q1 q2
   have zl : ¬ ((0 : Int) < 0) := by omega
   have w01 : IntKind.i64.wrap ((0 : Int) + 1) = ((0 + 1 : Nat) : Int) := rfl
   simp -implicitDefEqProofs (disch := first | assumption | omega | (simp only [nxB]; omega) | (simp only [oneB])) only [s5_l2, s5_b2, xlen, AV.cells, splice, aload, astore, Nat.reduceAdd, Nat.reduceLeDiff, reduceIte, allB, h1, decide_true, x1, x2, g1, g2, q1, q2, a2, a3, a4, bne_self_eq_false, beq_self_eq_true, Bool.not_true, zl, decide_false, w01]
   exact back
  ·have hp : (0 : Int) < ((j + 1 : Nat) : Int) := by omega
   have ws : IntKind.i64.wrap (((j + 1 : Nat) : Int) - 1) = (j : Int) := by rw [wrap_i64 (by omega) (by omega)]; omega
   obtain ⟨d, d1, d2, -, -⟩ := places_get (sep := sep) L 0 j (by omega)
   have q3 := e2 j d d1
   simp only [Tok.cells] at q3
   have x3 := ia22 (cap := cap') (l := l') (i := i') (n := L.length + 1) (k := (j : Int)) (by omega) (by omega)
   have hjj : ((j : Int)).toNat = j := by omega
   rw [hjj] at x3
   have hlt : j < L.length := by omega
   have tk : L.take (j + 1) = L.take j ++ [L[j]] := List.take_succ_eq_append_getElem hlt
   have hpos : ¬ (b.pos ≤ d.pos) := by
    rw [b2, d2, tk, join_snoc, List.length_append, List.length_append]; omega
   simp -implicitDefEqProofs (disch := first | assumption | omega | (simp only [nxB]; omega) | (simp only [oneB])) only [s5_l2, s5_b2, xlen, AV.cells, splice, aload, astore, Nat.reduceAdd, Nat.reduceLeDiff, reduceIte, allB, h1, decide_true, x1, x2, g1, g2, q1, q2, a2, a3, a4, bne_self_eq_false, beq_self_eq_true, Bool.not_true, hp, ws, x3, q3, hpos, decide_false, wn1]
   exact back
theorem back_run {H : AHeap} (hg : Gl H) (s : Bs) (how : Int) : W (s5 (evw P orc) 3000 (.str s) (.int .i64 how) H) fun v H' => v = .bool true ∧ Pur H H' := by
 rw [s5]
 refine W_call (Tokens_spec s) ?_
 rintro _ H1 ⟨tv, rfl, ht, p1⟩
 refine ⟨p1.1, ?_⟩
 have hlen := tokensS_len s
 rcases hq : tokensS s with ⟨T, fe, fa⟩
 rw [hq] at ht hlen
 simp only at ht hlen
 have p2 := p1.then_push (.row false 2 [[.int .i64 fe, .int .i64 fa]])
 by_cases h7 : (1000 : Int) < (s.length : Int)
 ·simp -implicitDefEqProofs (disch := first | assumption | omega | (simp only [nxB]; omega) | (simp only [oneB])) only [xlen, AV.cells, splice, aload, astore, Nat.reduceAdd, Nat.reduceLeDiff, reduceIte, allB, AHeap.push_set_lt, h7, decide_true]
  exact W_some.2 ⟨rfl, p2⟩
 by_cases hfe : fe = 0
 ·subst hfe
  have z0 : ((0 : Int) != 0) = false := rfl
  obtain ⟨k, hk, ek⟩ := and3 how
  have h0 : (0 : Int) ≤ (k : Int) := by omega
  have h4 : (k : Int) < ((4 : Nat) : Int) := by omega
  have hnn : ((k : Int)).toNat = k := by omega
  have eA : ([[AV.str [32]], [AV.str [10]], [AV.str [9, 13, 32]], [AV.str [32, 47, 47, 32, 120, 10]]] : List (List AV)) = sepsL.map fun t => [.str t] := rfl
  have gA : (sepsL.map fun t => [AV.str t])[k]? = some [.str (sepsL[k]?.getD [])] := get_map (by simpa [sepsL] using hk)
  obtain ⟨hs, hs6⟩ := seps_ok hk
  rw [eA]
  generalize (sepsL.map fun t => [AV.str t]) = RA at gA
  generalize sepsL[k]?.getD [] = sep at gA hs hs6
  simp -implicitDefEqProofs (disch := first | assumption | omega | (simp only [nxB]; omega) | (simp only [oneB])) only [xlen, evB, binB, Nat.reduceAdd, Nat.reduceLeDiff, reduceIte, AV.cells, splice, lsB, aload, tyB, astore, tyB, heapB, tabB, AHeap.push_set_lt, h7, decide_false, z0, ek, hnn, gA]
  obtain ⟨L, q, rfl, hgood, hsm⟩ : ∃ L q, T = L ++ [⟨0, [], 0, q⟩] ∧ (∀ t ∈ L, GoodT t) ∧ (∀ t ∈ L, t.text.length ≤ 1000) := by
   have h6' : ¬ 6000 < s.length := by omega
   rw [tokensS, if_neg h6'] at hq
   cases hl : lexS s with
   | inl e => rw [hl] at hq; simp at hq
   | inr l =>
    rw [hl] at hq
    simp only [Prod.mk.injEq] at hq
    obtain ⟨rfl, -, -⟩ := hq
    obtain ⟨L, q, rfl, hgd⟩ := lexL_good _ _ _ _ hl
    refine ⟨L, q, rfl, hgd, fun t ht => ?_⟩
    have := lexL_small _ _ _ _ hl t (List.mem_append_left _ ht)
    simp only [List.length_drop] at this
    omega
  have hL : L.length ≤ 2000 := by simp at hlen; omega
  have p3 := p2.then_push (.row false 1 RA)
  refine back_loop3 (H0 := (H1.push (.row false 2 [[.int .i64 0, .int .i64 fa]])).push (.row false 1 RA)) rfl hs6 hL hgood hsm ?_ (ht.pur ((Pur.push _ _).then_push _)) L.length 0 3000 _ (by omega) (by omega) (.refl _)
  intro H2 p4
  have p5 := p3.trans p4
  have ht2 := (ht.pur ((Pur.push H1 (.row false 2 [[.int .i64 0, .int .i64 fa]])).then_push (.row false 1 RA))).pur p4
  have hbig := join_bd hs6 L hsm
  by_cases h6 : (6000 : Int) < ((joinT sep L).length : Int)
  ·simp -implicitDefEqProofs (disch := first | assumption | omega | (simp only [nxB]; omega) | (simp only [oneB])) only [s5_j0, s5_j1, xlen, AV.cells, splice, aload, astore, Nat.reduceAdd, Nat.reduceLeDiff, reduceIte, allB, h6, decide_true]
   refine W_call (known_spec (hg.pur p5)) ?_
   rintro _ H3 ⟨rfl, p6⟩
   exact ⟨p6.1, W_some.2 ⟨rfl, p5.trans p6⟩⟩
  ·simp -implicitDefEqProofs (disch := first | assumption | omega | (simp only [nxB]; omega) | (simp only [oneB])) only [s5_j0, xlen, evB, binB, tabB, h6, decide_false]
   refine W_call (lTokens_spec (hg.pur p5) _) ?_
   rintro _ H3 ⟨w, rfl, hw, p6⟩
   refine ⟨p6.1, ?_⟩
   rw [join_tokens hs hgood (by omega)] at hw ⊢
   simp only at hw ⊢
   have p7 := (p5.trans p6).then_push (.row false 2 [[.int .i64 0, .int .i64 0]])
   have ht3 := ht2.pur (p6.then_push (.row false 2 [[.int .i64 0, .int .i64 0]]))
   have hw3 := hw.pur (Pur.push H3 (.row false 2 [[.int .i64 0, .int .i64 0]]))
   have g3 := AHeap.get_push_same H3 (.row false 2 [[.int .i64 0, .int .i64 0]])
   have la := fun H' => ht2.len5 H'
   have lb := fun H' => hw.len5 H'
   have hll : (L ++ [(⟨0, [], 0, q⟩ : Tok)]).length = L.length + 1 := by simp
   have hlw := places_len sep L 0
   rw [hll] at la
   rw [hlw] at lb
   have w1 : IntKind.i64.wrap (((L.length + 1 : Nat) : Int) - 1) = (L.length : Int) := by rw [wrap_i64 (by omega) (by omega)]; omega
   simp -implicitDefEqProofs (disch := first | assumption | omega | (simp only [nxB]; omega) | (simp only [oneB])) only [xlen, evB, aload, tyB, astore, tyB, Nat.reduceAdd, Nat.reduceLeDiff, reduceIte, AV.cells, splice, lsB, heapB, AHeap.push_set_lt]
   generalize (H3.push (.row false 2 [[.int .i64 0, .int .i64 0]])) = H4 at *
   rcases id hw3 with ⟨_, e⟩ | ⟨l', i', cap', rfl, e⟩
   ·rw [e] at hlw; simp at hlw
   obtain ⟨ro', els', g2, e2⟩ := e.resolve_left (by intro e; rw [e] at hlw; simp at hlw)
   obtain ⟨b, b1, b2, b3, b4⟩ := places_get (sep := sep) L 0 L.length (Nat.le_refl _)
   rw [List.take_length, Nat.zero_add] at b2
   have q2 := e2 _ b b1
   simp only [Tok.cells] at q2
   have x2 := ia22 (cap := cap') (l := l') (i := i') (n := (placesT sep L 0).length) (k := (L.length : Int)) (by omega) (by omega)
   have hnl : ((L.length : Int)).toNat = L.length := by omega
   rw [hnl] at x2
   simp -implicitDefEqProofs (disch := first | assumption | omega | (simp only [nxB]; omega) | (simp only [oneB])) only [xlen, AV.cells, splice, aload, astore, Nat.reduceAdd, Nat.reduceLeDiff, reduceIte, allB, g3, z0, la, lb, bne_self_eq_false, w1, x2, g2, q2, b2]
   refine back_loop2 ?_ hL (by omega) ?_ ht3 hw3 (L.length + 1) 0 3000 (by omega) (by omega)
   ·obtain ⟨b, r, rfl, -⟩ := hs.h
    simp
   ·simp -implicitDefEqProofs (disch := first | assumption | omega | (simp only [nxB]; omega) | (simp only [oneB])) only [s5_j1, xlen, evB]
    refine W_call (known_spec (hg.pur p7)) ?_
    rintro _ H5 ⟨rfl, p8⟩
    exact ⟨p8.1, W_some.2 ⟨rfl, p7.trans p8⟩⟩
 ·have z0 : (fe != 0) = true := by simpa using hfe
  simp -implicitDefEqProofs (disch := first | assumption | omega | (simp only [nxB]; omega) | (simp only [oneB])) only [xlen, AV.cells, splice, aload, astore, Nat.reduceAdd, Nat.reduceLeDiff, reduceIte, allB, AHeap.push_set_lt, h7, decide_false, z0]
  exact W_some.2 ⟨rfl, p2⟩
end Go.Proofs.YtgcamjgnfeajiaaDoor

