/-
  Texts of one proof, laid together: D1 D2 D3 D4.
-/
import Derived.Test.YtnjoomfeddamcaaMI
import Derived.Test.YtnjoomfeddamcaaMJ
import Derived.Test.YtnjoomfeddamcaaMNa
import Derived.Test.YtnjoomfeddamcaaML
import Derived.Test.YtnjoomfeddamcaaMN
import Derived.Test.YtnjoomfeddamcaaMHg
set_option linter.unusedVariables false
set_option linter.unusedSimpArgs false
/-
  ExprDeep: signs, brackets and calls in each other: what the mirror reads.
-/
namespace Go.Proofs.Ytnjoomfeddamcaa
open Go.Ev

theorem w64_1 {a : Int} (h0 : 0 ≤ a) (h1 : a ≤ 1000000) : w64 (a + 1) = a + 1 := wrap_i64 (by omega) (by omega)
theorem w64_m {a : Int} (h0 : 1 ≤ a) (h1 : a ≤ 1000000) : w64 (a - 1) = a - 1 := wrap_i64 (by omega) (by omega)
/-- Nothing goes on here. -/
def StopAt (T : List Tok) (s : St) : Prop := s.fe ≠ 0 ∨ (tokAt T s.at_).kind = 0 ∨ ((tokAt T s.at_).kind = 4 ∧ ((tokAt T s.at_).text = [41] ∨ (tokAt T s.at_).text = [93]))
theorem StopAt.kind {T : List Tok} {s : St} (h : StopAt T s) (lev : Nat) (hl : lev < 5) : kindS T lev s = 0 := by
  rcases h with h | h | ⟨h, h'⟩
  · exact kindS_failed h lev
  · exact kindL_other (by rw [h]; decide) _
  · have : lev = 0 ∨ lev = 1 ∨ lev = 2 ∨ lev = 3 ∨ lev = 4 := by omega
    rcases this with rfl | rfl | rfl | rfl | rfl <;> rcases h' with h' | h' <;> simp [kindS, kindL, lvls, isB, h']
theorem StopAt.chain {T : List Tok} {s : St} (h : StopAt T s) (n : Nat) (e : Ex) : chainL T (n + 1) e s = some (e, s) := by
  rcases h with h | h | ⟨h, h'⟩
  · have hb : (s.fe == 0) = false := by simpa using h
    simp [chainL, hb]
  · simp [chainL, h]
  · cases hb : (s.fe == 0) with
    | false => simp [chainL, hb]
    | true => rcases h' with h' | h' <;> simp [chainL, hb, h, h']
theorem rowF_wrap {T : List Tok} {m : Nat} {s s1 : St} {e : Ex} (h : unaryF T m s = some (e, s1)) (hs : StopAt T s1) (hm : 1 ≤ m) : rowF T (m + 6) 0 s = some (e, s1) := by
  have hk := hs.kind
  obtain ⟨m, rfl⟩ : ∃ k, m = k + 1 := ⟨m - 1, by omega⟩
  have h5 : rowF T (m + 1 + 1) 5 s = some (e, s1) := by rw [rowF]; exact h
  have step : ∀ (lev f : Nat), lev < 5 → rowF T (f + 1) (lev + 1) s = some (e, s1) → rowF T (f + 1 + 1) lev s = some (e, s1) := by
    intro lev f hl hr
    have hne : ¬ lev = 5 := by omega
    rw [rowF]
    simp only [hne, if_false, hr, Option.bind_some]
    rw [rowL, if_pos (hk lev hl)]
  exact step 0 _ (by omega) (step 1 _ (by omega) (step 2 _ (by omega) (step 3 _ (by omega) (step 4 _ (by omega) h5))))
theorem unary_chain {T : List Tok} {n : Nat} {s s1 : St} {e e1 : Ex} (hk : (tokAt T s.at_).kind = 4 → (tokAt T s.at_).text ≠ [45] ∧ (tokAt T s.at_).text ≠ [33]) (hf : firstF T (n + 1) s = some (e, s1)) {s2 : St} (hc : chainL T (n + 1) e s1 = some (e1, s2)) : unaryF T (n + 3) s = some (e1, s2) := by
  have h1 : isB T s 4 [45] = false := by
    by_cases h : (tokAt T s.at_).kind = 4
    · simp [isB, (hk h).1]
    · simp [isB, h]
  have h2 : isB T s 4 [33] = false := by
    by_cases h : (tokAt T s.at_).kind = 4
    · simp [isB, (hk h).2]
    · simp [isB, h]
  rw [unaryF, h1, h2]
  simp only [cond_false]
  rw [chainF, hf]
  exact hc
/-- What is told of a depth: all is read up to a place; or the first that is too many is told. -/
def DeepRes (j : Nat) (o : Int) (end_ : Int) (bad : Int → Int) (s' : St) : Prop :=
  if j = 0 ∨ (j : Int) + o ≤ 50 then s' = ⟨end_, o, 0, 0⟩ else s'.fe = 4 ∧ s'.fa = bad (max (50 - o) 0)
theorem tok_map {f : Nat → Tok} {L k : Nat} (h : k < L) : tokAt ((List.range L).map f) (k : Int) = f k := by
  unfold tokAt
  rw [if_neg (by simp; omega)]
  simp [h]
theorem tok_map' {f : Nat → Tok} {L k : Nat} {i : Int} (hi : i = k) (h : k < L) : tokAt ((List.range L).map f) i = f k := by rw [hi]; exact tok_map h

/-! ### A sign ahead of a sign -/
def tk0 (n i : Nat) : Tok := if i < n then ⟨4, [45], 0, i⟩ else if i = n then ⟨2, [], 1, i⟩ else ⟨0, [], 0, i⟩
theorem deep0 {n : Nat} (hn : n ≤ 60) : ∀ (j i f : Nat) (o : Int), i + j = n → 0 ≤ o → o ≤ 100 → 3 * j + 10 ≤ f →
    ∃ e s', unaryF ((List.range (n + 2)).map (tk0 n)) f ⟨i, o, 0, 0⟩ = some (e, s') ∧ DeepRes j o (n + 1) (fun k => i + k) s'
  | 0, i, f, o, hij, h0, h1, hf => by
    obtain ⟨f, rfl⟩ : ∃ m, f = m + 3 := ⟨f - 3, by omega⟩
    obtain rfl : i = n := by omega
    have ht : tokAt ((List.range (i + 2)).map (tk0 i)) ((i : Nat) : Int) = ⟨2, [], 1, i⟩ := by rw [tok_map (by omega)]; simp [tk0]
    have ht' : tokAt ((List.range (i + 2)).map (tk0 i)) ((i : Int) + 1) = ⟨0, [], 0, ((i + 1 : Nat) : Int)⟩ := by rw [tok_map' (k := i + 1) (by omega) (by omega)]; simp [tk0]
    refine ⟨_, ⟨(i : Int) + 1, o, 0, 0⟩, unary_chain (by simp [ht]) (e := .mk { kind := 1, n := 1, pos := i } []) (s1 := ⟨(i : Int) + 1, o, 0, 0⟩) ?_ (StopAt.chain (.inr (.inl (by rw [ht']))) _ _), by simp [DeepRes]⟩
    simp [firstF, ht, goS, w64_1 (a := (i : Int)) (by omega) (by omega)]
  | j + 1, i, f, o, hij, h0, h1, hf => by
    obtain ⟨f, rfl⟩ : ∃ m, f = m + 2 := ⟨f - 2, by omega⟩
    have ht : tokAt ((List.range (n + 2)).map (tk0 n)) ((i : Nat) : Int) = ⟨4, [45], 0, i⟩ := by rw [tok_map (by omega)]; simp [tk0]; omega
    have hi : isB ((List.range (n + 2)).map (tk0 n)) ⟨i, o, 0, 0⟩ 4 [45] = true := by simp [isB, ht]
    rw [unaryF, hi, cond_true, signF]
    by_cases ho : 50 ≤ o
    · refine ⟨.zero, failS ((List.range (n + 2)).map (tk0 n)) 4 ⟨i, o, 0, 0⟩, by simp [opensS, hi, ho], ?_⟩
      rw [DeepRes, if_neg (by omega)]
      simp only [failS, if_true, ht, true_and]
      omega
    · obtain ⟨e, s', h2, h3⟩ := deep0 hn j (i + 1) f (o + 1) (by omega) (by omega) (by omega) (by omega)
      have hop : opensS ((List.range (n + 2)).map (tk0 n)) [45] ⟨i, o, 0, 0⟩ = (true, ⟨((i + 1 : Nat) : Int), o + 1, 0, 0⟩) := by
        simp [opensS, hi, ho, w64_1 (a := (i : Int)) (by omega) (by omega), w64_1 (a := o) h0 (by omega)]
      refine ⟨.mk { kind := 12, pos := i } [e], outS s', by simp only [hop, h2, ht, cond_true, Option.bind_some], ?_⟩
      unfold DeepRes at h3 ⊢
      by_cases hc : j = 0 ∨ (j : Int) + (o + 1) ≤ 50
      · rw [if_pos hc] at h3
        rw [if_pos (by omega), h3]
        simp only [outS, w64_m (a := o + 1) (by omega) (by omega)]
        congr 1; omega
      · rw [if_neg hc] at h3
        rw [if_neg (by omega)]
        refine ⟨h3.1, ?_⟩
        show s'.fa = _
        rw [h3.2]
        simp only
        omega
theorem closes_good {T : List Tok} {x : Bs} {a o : Int} (ha : 0 ≤ a) (ha' : a ≤ 1000000) (ho : 1 ≤ o) (ho' : o ≤ 1000000) (ht : (tokAt T a).kind = 4) (hx : (tokAt T a).text = x) : (closesS T x ⟨a, o, 0, 0⟩).2 = ⟨a + 1, o - 1, 0, 0⟩ := by
  have hi : isB T (outS ⟨a, o, 0, 0⟩) 4 x = true := by simp [isB, outS, ht, hx]
  simp only [closesS, wantsS, hi, cond_true]
  simp [goS, outS, w64_1 ha ha', w64_m ho ho']
theorem closes_bad {T : List Tok} {x : Bs} {s : St} (h : s.fe ≠ 0) : (closesS T x s).2.fe = s.fe ∧ (closesS T x s).2.fa = s.fa := by
  have ho : (outS s).fe ≠ 0 := h
  simp only [closesS, wantsS, isB_failed ho, cond_false, failS_failed ho]
  exact ⟨rfl, rfl⟩
theorem opens_go {T : List Tok} {x : Bs} {a o : Int} (ha : 0 ≤ a) (ha' : a ≤ 1000000) (ho : 0 ≤ o) (ho' : o < 50) (ht : (tokAt T a).kind = 4) (hx : (tokAt T a).text = x) : opensS T x ⟨a, o, 0, 0⟩ = (true, ⟨a + 1, o + 1, 0, 0⟩) := by
  have hi : isB T ⟨a, o, 0, 0⟩ 4 x = true := by simp [isB, ht, hx]
  have h5 : ¬ 50 ≤ o := by omega
  simp [opensS, hi, h5, w64_1 ha ha', w64_1 ho (by omega)]
theorem opens_no {T : List Tok} {x : Bs} {a o : Int} (ho : 50 ≤ o) (ht : (tokAt T a).kind = 4) (hx : (tokAt T a).text = x) : ∃ s', opensS T x ⟨a, o, 0, 0⟩ = (false, s') ∧ s'.fe = 4 ∧ s'.fa = (tokAt T a).pos := by
  have hi : isB T ⟨a, o, 0, 0⟩ 4 x = true := by simp [isB, ht, hx]
  exact ⟨failS T 4 ⟨a, o, 0, 0⟩, by simp [opensS, hi, ho], by simp [failS], by simp [failS]⟩
/-- Brackets: from what is read within to what is read with them. -/
theorem single_res {T : List Tok} {x y : Bs} {a o c : Int} {m : Nat} {j : Nat} {bad : Int → Int} (ha : 0 ≤ a) (ha' : a ≤ 1000) (hc : 0 ≤ c) (hc' : c ≤ 1000) (ho : 0 ≤ o) (ho' : o ≤ 100) (ht : (tokAt T a).kind = 4) (hx : (tokAt T a).text = x) (hp : (tokAt T a).pos = bad 0) (htc : (tokAt T c).kind = 4) (hxc : (tokAt T c).text = y)
    (ih : o < 50 → ∃ e s', rowF T m 0 ⟨a + 1, o + 1, 0, 0⟩ = some (e, s') ∧ DeepRes j (o + 1) c (fun k => bad (k + 1)) s') : ∃ e s', singleF T (m + 1) x y ⟨a, o, 0, 0⟩ = some (e, s') ∧ DeepRes (j + 1) o (c + 1) bad s' := by
  rw [singleF]
  by_cases h5 : 50 ≤ o
  · obtain ⟨s', h1, h2, h3⟩ := opens_no h5 ht hx
    refine ⟨.zero, s', by simp only [h1, cond_false], ?_⟩
    rw [DeepRes, if_neg (by omega)]
    refine ⟨h2, ?_⟩
    rw [h3, hp]; congr 1; omega
  · obtain ⟨e, s', h1, h2⟩ := ih (by omega)
    refine ⟨e, (closesS T y s').2, by simp only [opens_go ha (by omega) ho (by omega) ht hx, cond_true, h1, Option.bind_some], ?_⟩
    unfold DeepRes at h2 ⊢
    by_cases hj : j = 0 ∨ (j : Int) + (o + 1) ≤ 50
    · rw [if_pos hj] at h2
      rw [if_pos (by omega), h2, closes_good hc (by omega) (by omega) (by omega) htc hxc]
      congr 1; omega
    · rw [if_neg hj] at h2
      rw [if_neg (by omega)]
      have hne : s'.fe ≠ 0 := by rw [h2.1]; decide
      rw [(closes_bad hne).1, (closes_bad hne).2]
      refine ⟨h2.1, ?_⟩
      rw [h2.2]; simp only; congr 1; omega
theorem DeepRes.stop {T : List Tok} {j : Nat} {o c : Int} {bad : Int → Int} {s' : St} (h : DeepRes j o c bad s') (hs : (tokAt T c).kind = 0 ∨ ((tokAt T c).kind = 4 ∧ ((tokAt T c).text = [41] ∨ (tokAt T c).text = [93]))) : StopAt T s' := by
  unfold DeepRes at h
  split at h
  · rw [h]; exact .inr hs
  · exact .inl (by rw [h.1]; decide)
/-- One number. -/
theorem deep_one {T : List Tok} {a o : Int} {v p : Int} {f : Nat} (ha : 0 ≤ a) (ha' : a ≤ 1000) (ht : tokAt T a = ⟨2, [], v, p⟩) (hs : (tokAt T (a + 1)).kind = 0 ∨ ((tokAt T (a + 1)).kind = 4 ∧ ((tokAt T (a + 1)).text = [41] ∨ (tokAt T (a + 1)).text = [93]))) (hf : 10 ≤ f) (bad : Int → Int) : ∃ e s', rowF T f 0 ⟨a, o, 0, 0⟩ = some (e, s') ∧ DeepRes 0 o (a + 1) bad s' := by
  obtain ⟨f, rfl⟩ : ∃ m, f = m + 3 + 6 := ⟨f - 9, by omega⟩
  have hst : StopAt T ⟨a + 1, o, 0, 0⟩ := .inr hs
  refine ⟨_, ⟨a + 1, o, 0, 0⟩, rowF_wrap (unary_chain (by simp [ht]) (e := .mk { kind := 1, n := v, pos := p } []) (s1 := ⟨a + 1, o, 0, 0⟩) ?_ (hst.chain _ _)) hst (by omega), by simp [DeepRes]⟩
  simp [firstF, ht, goS, w64_1 (a := a) ha (by omega)]

/-! ### Parentheses -/
def tk1 (n i : Nat) : Tok := if i < n then ⟨4, [40], 0, i⟩ else if i = n then ⟨2, [], 1, i⟩ else if i ≤ 2 * n then ⟨4, [41], 0, i⟩ else ⟨0, [], 0, i⟩
theorem deep1 {n : Nat} (hn : n ≤ 60) : ∀ (j i f : Nat) (o : Int), i + j = n → 0 ≤ o → o ≤ 100 → 20 * j + 20 ≤ f →
    ∃ e s', rowF ((List.range (2 * n + 2)).map (tk1 n)) f 0 ⟨i, o, 0, 0⟩ = some (e, s') ∧ DeepRes j o (n + j + 1) (fun k => i + k) s'
  | 0, i, f, o, hij, h0, h1, hf => by
    obtain rfl : i = n := by omega
    have ht : tokAt ((List.range (2 * i + 2)).map (tk1 i)) ((i : Nat) : Int) = ⟨2, [], 1, i⟩ := by rw [tok_map (by omega)]; simp [tk1]
    have ht' : tokAt ((List.range (2 * i + 2)).map (tk1 i)) ((i : Int) + 1) = tk1 i (i + 1) := tok_map' (by omega) (by omega)
    have := deep_one (o := o) (by omega) (by omega) ht (by rw [ht', tk1, if_neg (by omega), if_neg (by omega)]; by_cases hz : i + 1 ≤ 2 * i <;> simp [hz]) (show 10 ≤ f by omega) (fun k => (i : Int) + k)
    simpa using this
  | j + 1, i, f, o, hij, h0, h1, hf => by
    obtain ⟨f, rfl⟩ : ∃ m, f = m + 2 + 1 + 1 + 6 := ⟨f - 10, by omega⟩
    have ht : tokAt ((List.range (2 * n + 2)).map (tk1 n)) ((i : Nat) : Int) = ⟨4, [40], 0, i⟩ := by rw [tok_map (by omega)]; simp [tk1]; omega
    have hc : tokAt ((List.range (2 * n + 2)).map (tk1 n)) ((n : Int) + j + 1) = ⟨4, [41], 0, ((n + j + 1 : Nat) : Int)⟩ := by
      rw [tok_map' (k := n + j + 1) (by omega) (by omega), tk1, if_neg (by omega), if_neg (by omega), if_pos (by omega)]
    obtain ⟨e, s', h2, h3⟩ := single_res (m := f) (j := j) (a := i) (o := o) (c := (n : Int) + j + 1) (bad := fun k => (i : Int) + k) (x := [40]) (y := [41]) (by omega) (by omega) (by omega) (by omega) h0 h1 (by rw [ht]) (by rw [ht]) (by rw [ht]; simp) (by rw [hc]) (by rw [hc])
      (fun h5 => by
        obtain ⟨e, s', q1, q2⟩ := deep1 hn j (i + 1) f (o + 1) (by omega) (by omega) (by omega) (by omega)
        have e1 : ((i + 1 : Nat) : Int) = (i : Int) + 1 := by omega
        rw [e1] at q1 q2
        exact ⟨e, s', q1, by simpa [Int.add_assoc, Int.add_comm 1] using q2⟩)
    have hst : StopAt ((List.range (2 * n + 2)).map (tk1 n)) s' := h3.stop (by
      rw [tok_map' (k := n + j + 2) (by omega) (by omega), tk1, if_neg (by omega), if_neg (by omega)]
      by_cases hz : n + j + 2 ≤ 2 * n <;> simp [hz])
    have hff : firstF ((List.range (2 * n + 2)).map (tk1 n)) (f + 1 + 1) ⟨i, o, 0, 0⟩ = some (e, s') := by
      rw [firstF]
      simp [ht]
      exact h2
    refine ⟨e, s', rowF_wrap (unary_chain (by simp [ht]) hff (hst.chain _ _)) hst (by omega), ?_⟩
    have e2 : (n : Int) + j + 1 + 1 = (n : Int) + ((j + 1 : Nat) : Int) + 1 := by omega
    rwa [e2] at h3

/-! ### Calls, and items -/
theorem list_res {T : List Tok} {a o c : Int} {m : Nat} {j : Nat} {bad : Int → Int} (ha : 0 ≤ a) (ha' : a ≤ 1000) (hc : 0 ≤ c) (hc' : c ≤ 1000) (ho : 0 ≤ o) (ho' : o ≤ 100) (ht : (tokAt T a).kind = 4) (hx : (tokAt T a).text = [40]) (hp : (tokAt T a).pos = bad 0) (htc : (tokAt T c).kind = 4) (hxc : (tokAt T c).text = [41]) (hno : (tokAt T (a + 1)).kind ≠ 4)
    (ih : o < 50 → ∃ e s', rowF T (m + 1) 0 ⟨a + 1, o + 1, 0, 0⟩ = some (e, s') ∧ DeepRes j (o + 1) c (fun k => bad (k + 1)) s') : ∃ e s', listF T (m + 1 + 1) ⟨a, o, 0, 0⟩ = some (e, s') ∧ DeepRes (j + 1) o (c + 1) bad s' := by
  rw [listF]
  by_cases h5 : 50 ≤ o
  · obtain ⟨s', h1, h2, h3⟩ := opens_no h5 ht hx
    refine ⟨[], s', by simp only [h1, cond_false], ?_⟩
    rw [DeepRes, if_neg (by omega)]
    refine ⟨h2, ?_⟩
    rw [h3, hp]; congr 1; omega
  · obtain ⟨e, s', h1, h2⟩ := ih (by omega)
    have hb : isB T ⟨a + 1, o + 1, 0, 0⟩ 4 [41] = false := by simp [isB, hno]
    have hk : isB T s' 4 [44] = false := by
      unfold DeepRes at h2
      split at h2
      · rw [h2]; simp [isB, hxc]
      · exact isB_failed (by rw [h2.1]; decide) _ _
    refine ⟨[e], (closesS T [41] s').2, by simp only [opens_go ha (by omega) ho (by omega) ht hx, cond_true, hb, cond_false, h1, Option.bind_some, listL, takesS, hk], ?_⟩
    unfold DeepRes at h2 ⊢
    by_cases hj : j = 0 ∨ (j : Int) + (o + 1) ≤ 50
    · rw [if_pos hj] at h2
      rw [if_pos (by omega), h2, closes_good hc (by omega) (by omega) (by omega) htc hxc]
      congr 1; omega
    · rw [if_neg hj] at h2
      rw [if_neg (by omega)]
      have hne : s'.fe ≠ 0 := by rw [h2.1]; decide
      rw [(closes_bad hne).1, (closes_bad hne).2]
      refine ⟨h2.1, ?_⟩
      rw [h2.2]; simp only; congr 1; omega
def tk2 (c x y : UInt8) (n i : Nat) : Tok := if i < 2 * n then (if i % 2 = 0 then ⟨1, [c], 0, i⟩ else ⟨4, [x], 0, i⟩) else if i = 2 * n then ⟨2, [], 1, i⟩ else if i ≤ 3 * n then ⟨4, [y], 0, i⟩ else ⟨0, [], 0, i⟩
section
variable {c x y : UInt8} {n : Nat}
theorem tk2_name {i : Nat} {a : Int} (ha : a = ((2 * i : Nat) : Int)) (h : i < n) : tokAt ((List.range (3 * n + 2)).map (tk2 c x y n)) a = ⟨1, [c], 0, ((2 * i : Nat) : Int)⟩ := by
  rw [tok_map' ha (by omega), tk2, if_pos (by omega), if_pos (by omega)]
theorem tk2_open {i : Nat} {a : Int} (ha : a = ((2 * i + 1 : Nat) : Int)) (h : i < n) : tokAt ((List.range (3 * n + 2)).map (tk2 c x y n)) a = ⟨4, [x], 0, ((2 * i + 1 : Nat) : Int)⟩ := by
  rw [tok_map' ha (by omega), tk2, if_pos (by omega), if_neg (by omega)]
theorem tk2_one {a : Int} (ha : a = ((2 * n : Nat) : Int)) : tokAt ((List.range (3 * n + 2)).map (tk2 c x y n)) a = ⟨2, [], 1, ((2 * n : Nat) : Int)⟩ := by
  rw [tok_map' ha (by omega), tk2, if_neg (by omega), if_pos rfl]
theorem tk2_close {i : Nat} {a : Int} (ha : a = ((2 * n + 1 + i : Nat) : Int)) (h : i < n) : tokAt ((List.range (3 * n + 2)).map (tk2 c x y n)) a = ⟨4, [y], 0, ((2 * n + 1 + i : Nat) : Int)⟩ := by
  rw [tok_map' ha (by omega), tk2, if_neg (by omega), if_neg (by omega), if_pos (by omega)]
theorem tk2_stop {i : Nat} {a : Int} (ha : a = ((2 * n + 1 + i : Nat) : Int)) (h : i ≤ n) (hy : y = 41 ∨ y = 93) : (tokAt ((List.range (3 * n + 2)).map (tk2 c x y n)) a).kind = 0 ∨ ((tokAt ((List.range (3 * n + 2)).map (tk2 c x y n)) a).kind = 4 ∧ ((tokAt ((List.range (3 * n + 2)).map (tk2 c x y n)) a).text = [41] ∨ (tokAt ((List.range (3 * n + 2)).map (tk2 c x y n)) a).text = [93])) := by
  rw [tok_map' ha (by omega), tk2, if_neg (by omega), if_neg (by omega)]
  by_cases hz : 2 * n + 1 + i ≤ 3 * n
  · rw [if_pos hz]; right; refine ⟨rfl, ?_⟩
    rcases hy with rfl | rfl
    · exact .inl rfl
    · exact .inr rfl
  · rw [if_neg hz]; exact .inl rfl
end
theorem deep2 {n : Nat} (hn : n ≤ 60) : ∀ (j i f : Nat) (o : Int), i + j = n → 0 ≤ o → o ≤ 100 → 20 * j + 20 ≤ f →
    ∃ e s', rowF ((List.range (3 * n + 2)).map (tk2 102 40 41 n)) f 0 ⟨((2 * i : Nat) : Int), o, 0, 0⟩ = some (e, s') ∧ DeepRes j o (2 * n + j + 1) (fun k => 2 * (i + k) + 1) s'
  | 0, i, f, o, hij, h0, h1, hf => by
    obtain rfl : i = n := by omega
    have := deep_one (o := o) (a := ((2 * i : Nat) : Int)) (by omega) (by omega) (tk2_one (c := 102) (x := 40) (y := 41) rfl) (tk2_stop (i := 0) (by omega) (by omega) (.inl rfl)) (show 10 ≤ f by omega) (fun k => 2 * ((i : Int) + k) + 1)
    have e1 : ((2 * i : Nat) : Int) + 1 = 2 * (i : Int) + ((0 : Nat) : Int) + 1 := by omega
    rw [e1] at this
    exact this
  | j + 1, i, f, o, hij, h0, h1, hf => by
    obtain ⟨f, rfl⟩ : ∃ m, f = m + 3 + 3 + 6 := ⟨f - 12, by omega⟩
    have ht := tk2_name (c := 102) (x := 40) (y := 41) (n := n) (i := i) rfl (by omega)
    have ho := tk2_open (c := 102) (x := 40) (y := 41) (n := n) (i := i) (a := ((2 * i : Nat) : Int) + 1) (by omega) (by omega)
    have hc := tk2_close (c := 102) (x := 40) (y := 41) (n := n) (i := j) (a := 2 * (n : Int) + j + 1) (by omega) (by omega)
    have hno : (tokAt ((List.range (3 * n + 2)).map (tk2 102 40 41 n)) (((2 * i : Nat) : Int) + 1 + 1)).kind ≠ 4 := by
      rw [tok_map' (k := 2 * i + 2) (by omega) (by omega), tk2]
      by_cases hz : 2 * i + 2 < 2 * n
      · rw [if_pos hz, if_pos (by omega)]; simp
      · rw [if_neg hz, if_pos (by omega)]; simp
    obtain ⟨e, s', h2, h3⟩ := list_res (m := f) (j := j) (a := ((2 * i : Nat) : Int) + 1) (o := o) (c := 2 * (n : Int) + j + 1) (bad := fun k => 2 * ((i : Int) + k) + 1) (by omega) (by omega) (by omega) (by omega) h0 h1 (by rw [ho]) (by rw [ho]) (by rw [ho]; simp) (by rw [hc]) (by rw [hc]) hno
      (fun h5 => by
        obtain ⟨e, s', q1, q2⟩ := deep2 hn j (i + 1) (f + 1) (o + 1) (by omega) (by omega) (by omega) (by omega)
        have e1 : ((2 * (i + 1) : Nat) : Int) = ((2 * i : Nat) : Int) + 1 + 1 := by omega
        rw [e1] at q1
        have e2 : (fun k : Int => 2 * (((i + 1 : Nat) : Int) + k) + 1) = fun k => 2 * ((i : Int) + (k + 1)) + 1 := by funext k; omega
        rw [e2] at q2
        exact ⟨e, s', q1, q2⟩)
    have hst : StopAt ((List.range (3 * n + 2)).map (tk2 102 40 41 n)) s' := h3.stop (tk2_stop (i := j + 1) (by omega) (by omega) (.inl rfl))
    have hgo : goS ⟨((2 * i : Nat) : Int), o, 0, 0⟩ = ⟨((2 * i : Nat) : Int) + 1, o, 0, 0⟩ := by simp only [goS, w64_1 (a := ((2 * i : Nat) : Int)) (by omega) (by omega)]
    have hib : isB ((List.range (3 * n + 2)).map (tk2 102 40 41 n)) ⟨((2 * i : Nat) : Int) + 1, o, 0, 0⟩ 4 [40] = true := by simp only [isB, ho]; rfl
    have hff : firstF ((List.range (3 * n + 2)).map (tk2 102 40 41 n)) (f + 1 + 1 + 1 + 1) ⟨((2 * i : Nat) : Int), o, 0, 0⟩ = some (.mk { kind := 7, name := [102], pos := ((2 * i : Nat) : Int) } e, s') := by
      rw [firstF]
      simp only [ht, ne_eq, not_true, if_false, if_true, reduceCtorEq, show ¬ ((1 : Int) = 2) by decide]
      rw [nameF, hgo, hib, cond_true, h2, ht]
      rfl
    refine ⟨_, s', rowF_wrap (unary_chain (by rw [ht]; intro h; cases h) hff (hst.chain _ _)) hst (by omega), ?_⟩
    have e2 : 2 * (n : Int) + j + 1 + 1 = 2 * (n : Int) + ((j + 1 : Nat) : Int) + 1 := by omega
    rwa [e2] at h3
theorem deep3 {n : Nat} (hn : n ≤ 60) : ∀ (j i f : Nat) (o : Int), i + j = n → 0 ≤ o → o ≤ 100 → 20 * j + 20 ≤ f →
    ∃ e s', rowF ((List.range (3 * n + 2)).map (tk2 120 91 93 n)) f 0 ⟨((2 * i : Nat) : Int), o, 0, 0⟩ = some (e, s') ∧ DeepRes j o (2 * n + j + 1) (fun k => 2 * (i + k) + 1) s'
  | 0, i, f, o, hij, h0, h1, hf => by
    obtain rfl : i = n := by omega
    have := deep_one (o := o) (a := ((2 * i : Nat) : Int)) (by omega) (by omega) (tk2_one (c := 120) (x := 91) (y := 93) rfl) (tk2_stop (i := 0) (by omega) (by omega) (.inr rfl)) (show 10 ≤ f by omega) (fun k => 2 * ((i : Int) + k) + 1)
    have e1 : ((2 * i : Nat) : Int) + 1 = 2 * (i : Int) + ((0 : Nat) : Int) + 1 := by omega
    rw [e1] at this
    exact this
  | j + 1, i, f, o, hij, h0, h1, hf => by
    obtain ⟨f, rfl⟩ : ∃ m, f = m + 3 + 3 + 6 := ⟨f - 12, by omega⟩
    have ht := tk2_name (c := 120) (x := 91) (y := 93) (n := n) (i := i) rfl (by omega)
    have ho := tk2_open (c := 120) (x := 91) (y := 93) (n := n) (i := i) (a := ((2 * i : Nat) : Int) + 1) (by omega) (by omega)
    have hc := tk2_close (c := 120) (x := 91) (y := 93) (n := n) (i := j) (a := 2 * (n : Int) + j + 1) (by omega) (by omega)
    obtain ⟨e, s', h2, h3⟩ := single_res (m := f + 1 + 1) (j := j) (a := ((2 * i : Nat) : Int) + 1) (o := o) (c := 2 * (n : Int) + j + 1) (bad := fun k => 2 * ((i : Int) + k) + 1) (x := [91]) (y := [93]) (by omega) (by omega) (by omega) (by omega) h0 h1 (by rw [ho]) (by rw [ho]) (by rw [ho]; simp) (by rw [hc]) (by rw [hc])
      (fun h5 => by
        obtain ⟨e, s', q1, q2⟩ := deep3 hn j (i + 1) (f + 1 + 1) (o + 1) (by omega) (by omega) (by omega) (by omega)
        have e1 : ((2 * (i + 1) : Nat) : Int) = ((2 * i : Nat) : Int) + 1 + 1 := by omega
        rw [e1] at q1
        have e2 : (fun k : Int => 2 * (((i + 1 : Nat) : Int) + k) + 1) = fun k => 2 * ((i : Int) + (k + 1)) + 1 := by funext k; omega
        rw [e2] at q2
        exact ⟨e, s', q1, q2⟩)
    have hst : StopAt ((List.range (3 * n + 2)).map (tk2 120 91 93 n)) s' := h3.stop (tk2_stop (i := j + 1) (by omega) (by omega) (.inr rfl))
    have hgo : goS ⟨((2 * i : Nat) : Int), o, 0, 0⟩ = ⟨((2 * i : Nat) : Int) + 1, o, 0, 0⟩ := by simp only [goS, w64_1 (a := ((2 * i : Nat) : Int)) (by omega) (by omega)]
    have hib : isB ((List.range (3 * n + 2)).map (tk2 120 91 93 n)) ⟨((2 * i : Nat) : Int) + 1, o, 0, 0⟩ 4 [40] = false := by simp only [isB, ho]; rfl
    have hff : firstF ((List.range (3 * n + 2)).map (tk2 120 91 93 n)) (f + 1 + 1 + 1 + 1) ⟨((2 * i : Nat) : Int), o, 0, 0⟩ = some (.mk { kind := 4, name := [120], pos := ((2 * i : Nat) : Int) } [], ⟨((2 * i : Nat) : Int) + 1, o, 0, 0⟩) := by
      rw [firstF]
      simp only [ht, ne_eq, not_true, if_false, if_true, reduceCtorEq, show ¬ ((1 : Int) = 2) by decide]
      rw [nameF, hgo, hib, cond_false, ht]
    have hch : chainL ((List.range (3 * n + 2)).map (tk2 120 91 93 n)) (f + 1 + 1 + 1 + 1) (.mk { kind := 4, name := [120], pos := ((2 * i : Nat) : Int) } []) ⟨((2 * i : Nat) : Int) + 1, o, 0, 0⟩ = some (.mk { kind := 6, pos := ((2 * i + 1 : Nat) : Int) } [.mk { kind := 4, name := [120], pos := ((2 * i : Nat) : Int) } [], e], s') := by
      rw [chainL]
      simp only [ho]
      have b1 : ((0 : Int) == 0 && (4 : Int) == 4) = true := rfl
      have b2 : (([91] : Bs) == [46]) = false := rfl
      have b3 : (([91] : Bs) == [91]) = true := rfl
      simp only [b1, b2, b3, cond_true, cond_false, h2, Option.bind_some]
      exact hst.chain _ _
    refine ⟨_, s', rowF_wrap (unary_chain (by rw [ht]; intro h; cases h) hff hch) hst (by omega), ?_⟩
    have e2 : 2 * (n : Int) + j + 1 + 1 = 2 * (n : Int) + ((j + 1 : Nat) : Int) + 1 := by omega
    rwa [e2] at h3
end Go.Proofs.Ytnjoomfeddamcaa

/-
  ExprDeep: the texts' tokens; what Parse answers.
-/
namespace Go.Proofs.Ytnjoomfeddamcaa
open Go.Ev

def deepA : Nat → Bs
  | 0 => [45]
  | 1 => [40]
  | 2 => [102, 40]
  | _ => [120, 91]
def deepB : Nat → Bs
  | 0 => []
  | 1 => [41]
  | 2 => [41]
  | _ => [93]
def repS (a : Bs) : Nat → Bs
  | 0 => []
  | n + 1 => repS a n ++ a
def repT (b : Bs) : Nat → Bs
  | 0 => [49]
  | n + 1 => repT b n ++ b
def deepT (w n : Nat) : List Tok := match w with
  | 0 => (List.range (n + 2)).map (tk0 n)
  | 1 => (List.range (2 * n + 2)).map (tk1 n)
  | 2 => (List.range (3 * n + 2)).map (tk2 102 40 41 n)
  | _ => (List.range (3 * n + 2)).map (tk2 120 91 93 n)
def Tok.enc (t : Tok) : Int × Bs × Int × Int := (t.kind, t.text, t.n, t.pos)
theorem Tok.enc_inj {a b : Tok} (h : a.enc = b.enc) : a = b := by
  obtain ⟨a1, a2, a3, a4⟩ := a
  obtain ⟨b1, b2, b3, b4⟩ := b
  simp only [Tok.enc, Prod.mk.injEq] at h
  obtain ⟨rfl, rfl, rfl, rfl⟩ := h
  rfl
theorem enc_list : ∀ {l m : List Tok}, l.map Tok.enc = m.map Tok.enc → l = m
  | [], [], _ => rfl
  | [], _ :: _, h => by simp at h
  | _ :: _, [], h => by simp at h
  | a :: l, b :: m, h => by
    simp only [List.map_cons, List.cons.injEq] at h
    rw [Tok.enc_inj h.1, enc_list h.2]
def deepOk (w n : Nat) : Bool := (tokensS (repS (deepA w) n ++ repT (deepB w) n)).1.map Tok.enc == (deepT w n).map Tok.enc
theorem deep_all : ((List.range 4).all fun w => (List.range 61).all fun n => deepOk w n) = true := by decide +kernel
theorem deep_toks {w n : Nat} (hw : w < 4) (hn : n ≤ 60) : (tokensS (repS (deepA w) n ++ repT (deepB w) n)).1 = deepT w n := by
  have h := List.all_eq_true.1 (List.all_eq_true.1 deep_all w (List.mem_range.2 hw)) n (List.mem_range.2 (by omega))
  unfold deepOk at h
  exact enc_list (by simpa using h)
theorem deepT_len {w n : Nat} : (deepT w n).length = (if w = 0 then n + 2 else if w = 1 then 2 * n + 2 else 3 * n + 2) := by
  unfold deepT
  split <;> simp_all
end Go.Proofs.Ytnjoomfeddamcaa

/-
  ExprDeep: what Parse answers.
-/
namespace Go.Proofs.Ytnjoomfeddamcaa
open Go.Ev

/-- What is read of such a text. -/
theorem deep_row {w n : Nat} (hw : w < 4) (hn : n ≤ 60) {o : Int} (h0 : 0 ≤ o) (h1 : o ≤ 60) : ∃ e s', rowF (deepT w n) 2000 0 (startS 0 o) = some (e, s') ∧
    (if n = 0 ∨ (n : Int) + o ≤ 50 then s'.fe = 0 ∧ s'.at_ = ((deepT w n).length : Int) - 1 else s'.fe = 4 ∧ s'.fa = (max (50 - o) 0) * ((deepA w).length : Int) + (deepA w).length - 1) := by
  have hst : startS 0 o = ⟨((0 : Nat) : Int), o, 0, 0⟩ := by simp [startS]; omega
  have fin : ∀ (e : Ex) (s' : St) (end_ : Int) (bad : Int → Int), DeepRes n o end_ bad s' → end_ = ((deepT w n).length : Int) - 1 → bad (max (50 - o) 0) = (max (50 - o) 0) * ((deepA w).length : Int) + (deepA w).length - 1 →
      (if n = 0 ∨ (n : Int) + o ≤ 50 then s'.fe = 0 ∧ s'.at_ = ((deepT w n).length : Int) - 1 else s'.fe = 4 ∧ s'.fa = (max (50 - o) 0) * ((deepA w).length : Int) + (deepA w).length - 1) := by
    intro e s' end_ bad h he hb
    unfold DeepRes at h
    split at h
    · rename_i hc; rw [if_pos hc, h]; exact ⟨rfl, he⟩
    · rename_i hc; rw [if_neg hc]; exact ⟨h.1, by rw [h.2, hb]⟩
  have : w = 0 ∨ w = 1 ∨ w = 2 ∨ w = 3 := by omega
  rcases this with rfl | rfl | rfl | rfl
  · obtain ⟨e, s', h2, h3⟩ := deep0 hn n 0 1994 o (by omega) h0 (by omega) (by omega)
    refine ⟨e, s', ?_, fin e s' _ _ h3 (by rw [deepT_len]; simp; omega) (by simp [deepA])⟩
    rw [hst]
    have ht : tokAt (deepT 0 n) ((n : Int) + 1) = tk0 n (n + 1) := tok_map' (f := tk0 n) (L := n + 2) (by omega) (by omega)
    refine rowF_wrap (m := 1994) h2 (h3.stop ?_) (by omega)
    rw [ht, tk0, if_neg (by omega), if_neg (by omega)]
    exact .inl rfl
  · obtain ⟨e, s', h2, h3⟩ := deep1 hn n 0 2000 o (by omega) h0 (by omega) (by omega)
    exact ⟨e, s', by rw [hst]; exact h2, fin e s' _ _ h3 (by rw [deepT_len]; simp; omega) (by simp [deepA])⟩
  · obtain ⟨e, s', h2, h3⟩ := deep2 hn n 0 2000 o (by omega) h0 (by omega) (by omega)
    exact ⟨e, s', by rw [hst]; exact h2, fin e s' _ _ h3 (by rw [deepT_len]; simp; omega) (by simp [deepA]; omega)⟩
  · obtain ⟨e, s', h2, h3⟩ := deep3 hn n 0 2000 o (by omega) h0 (by omega) (by omega)
    exact ⟨e, s', by rw [hst]; exact h2, fin e s' _ _ h3 (by rw [deepT_len]; simp; omega) (by simp [deepA]; omega)⟩
end Go.Proofs.Ytnjoomfeddamcaa

/-
  The law ExprDeep: the walk.
-/
namespace Go.Proofs.Ytnjoomfeddamcaa
open Go.Ev

theorem only_get (H : AHeap) (b : ABlk) : (H.push b).only.get H.next = some b := by
  have e : (H.push b).get ((H.push b).next - 1) = some b := AHeap.get_push_same H b
  unfold AHeap.only
  rw [e]
  simp only [AHeap.get, AHeap.next_push, Nat.add_sub_cancel]
  rw [if_pos (by omega), Tr.get_put_same _ _ _ _ (by omega)]
theorem only_get2 (H : AHeap) (a b : ABlk) : ((H.push a).push b).only.get (H.next + 1) = some b := only_get (H.push a) b
theorem mul3' (t : Bool) (a b : Int) : fbin P .mul 3 t (.int .i64 a) (.int .i64 b) = some (.int .i64 (IntKind.i64.wrap (a * b))) := fbin_mul _ _ _ _ _
theorem repS_len (a : Bs) : ∀ n, (repS a n).length = n * a.length
  | 0 => by simp [repS]
  | n + 1 => by simp [repS, repS_len a n, Nat.succ_mul]
theorem repT_len (b : Bs) : ∀ n, (repT b n).length = n * b.length + 1
  | 0 => by simp [repT]
  | n + 1 => by simp [repT, repT_len b n, Nat.succ_mul]; omega
theorem TokSl.len' {H : AHeap} {tv : AV} {T : List Tok} (h : TokSl H tv T) (H' : AHeap) : abuiltin P H' .len [22] [tv] = some (.int .i64 T.length) := by
  rcases h with ⟨rfl, rfl⟩ | ⟨l, i, cap, rfl, _⟩
  · exact ln22n
  · exact ln22
theorem deep_loop {G : CallT} {N : Nat} {n : Nat} (hn : n ≤ 60) {o : Int} {a b : Bs} (ha : a.length ≤ 2) (hb : b.length ≤ 2) {H : AHeap} {Q : AV → AHeap → Prop} (hQ : W (s7_j0 G N (.int .i64 n) (.int .i64 o) (.str a) (.str (repS a n)) (.str (repT b n)) H) Q) :
    ∀ (j i m : Nat), i + j = n → j < m → W (s7_l1 G N m (.int .i64 n) (.int .i64 o) (.str a) (.str b) (.str (repS a i)) (.str (repT b i)) (.int .i64 i) H) Q
  | _, _, 0, _, hm => by omega
  | 0, i, m + 1, hij, hm => by
    obtain rfl : i = n := by omega
    have h1 : ¬ ((i : Int) < (i : Int)) := by omega
    simp -implicitDefEqProofs (disch := first | assumption | omega | (simp only [nxB]; omega) | (simp only [oneB])) only [s7_l1, s7_b1, s7_54, s7_53, xalloc, xlen, evB, binB, h1, decide_false]
    exact hQ
  | j + 1, i, m + 1, hij, hm => by
    have h1 : ((i : Int) < (n : Int)) := by omega
    have l1 := repS_len a i
    have l2 := repT_len b i
    have m1 : i * a.length ≤ 60 * 2 := Nat.mul_le_mul (by omega) ha
    have m2 : i * b.length ≤ 60 * 2 := Nat.mul_le_mul (by omega) hb
    have a1 : fbin P .add 9 false (.str (repS a i)) (.str a) = some (.str (repS a (i + 1))) := fbin_sadd _ _ (repS a i) a (by omega)
    have a2 : fbin P .add 9 false (.str (repT b i)) (.str b) = some (.str (repT b (i + 1))) := fbin_sadd _ _ (repT b i) b (by omega)
    simp -implicitDefEqProofs (disch := first | assumption | omega | (simp only [nxB]; omega) | (simp only [oneB])) only [s7_l1, s7_b1, s7_54, s7_52, s7_51, s7_50, s7_49, xalloc, xlen, evB, binB, h1, decide_true, a1, a2, wn1]
    exact deep_loop hn ha hb hQ j (i + 1) m (by omega) (by omega)
theorem deep_end {H : AHeap} {w n : Nat} (hw : w < 4) (hn : n ≤ 60) {o : Int} (h0 : 0 ≤ o) (h1 : o ≤ 60) (N : Nat) : W (s7_j0 (evb P 17 true) N (.int .i64 n) (.int .i64 o) (.str (deepA w)) (.str (repS (deepA w) n)) (.str (repT (deepB w) n)) H) fun v H' => v = .bool true ∧ H.next ≤ H'.next := by
  have la : (deepA w).length ≤ 2 ∧ 1 ≤ (deepA w).length ∧ (deepB w).length ≤ 2 := by
    have : w = 0 ∨ w = 1 ∨ w = 2 ∨ w = 3 := by omega
    rcases this with rfl | rfl | rfl | rfl <;> simp [deepA, deepB]
  have l1 := repS_len (deepA w) n
  have l2 := repT_len (deepB w) n
  have m1 : n * (deepA w).length ≤ 60 * 2 := Nat.mul_le_mul (by omega) la.1
  have m2 : n * (deepB w).length ≤ 60 * 2 := Nat.mul_le_mul (by omega) la.2.2
  have a1 : fbin P .add 9 false (.str (repS (deepA w) n)) (.str (repT (deepB w) n)) = some (.str (repS (deepA w) n ++ repT (deepB w) n)) := fbin_sadd _ _ _ _ (by omega)
  have htk := deep_toks hw hn
  obtain ⟨e, s', hrow, hres⟩ := deep_row hw hn h0 h1
  generalize deepA w = A at *
  generalize repS A n = S1 at *
  generalize repT (deepB w) n = S2 at *
  generalize S1 ++ S2 = S3 at *
  simp -implicitDefEqProofs (disch := first | assumption | omega | (simp only [nxB]; omega) | (simp only [oneB])) only [s7_0, s7_1, s7_2, s7_3, s7_4, s7_5, s7_6, s7_7, s7_8, s7_9, s7_10, s7_11, s7_12, s7_13, s7_14, s7_15, s7_16, s7_17, s7_18, s7_19, s7_20, s7_21, s7_22, s7_23, s7_24, s7_25, s7_26, s7_27, s7_28, s7_29, s7_30, s7_31, s7_32, s7_33, s7_34, s7_35, s7_36, s7_37, s7_38, s7_39, s7_40, s7_41, s7_42, s7_43, s7_44, s7_45, s7_46, s7_47, s7_48, s7_j0, s7_49, s7_50, s7_51, s7_52, s7_53, s7_54, s7_b1, s7_55, s7_56, s7_57, s7_58, s7_59, s7_60, s7_61, s7_62, s7_63, s7_64, s7_65, s7_66, s7_67, s7_68, s7_69, s7_70, s7_71, s7_72, s7_73, s7_74, s7_75, s7_76, s7_77, s7_78, s7, xalloc, xlen, evB, a1]
  rw [evb_other (by decide)]
  refine W_call (Tokens_spec S3) ?_
  rintro _ H1 ⟨tv, rfl, ht, p1⟩
  refine ⟨p1.1, ?_⟩
  rw [htk] at ht
  generalize tokensS S3 = tk at ht
  simp -implicitDefEqProofs (disch := first | assumption | omega | (simp only [nxB]; omega) | (simp only [oneB])) only [s7_0, s7_1, s7_2, s7_3, s7_4, s7_5, s7_6, s7_7, s7_8, s7_9, s7_10, s7_11, s7_12, s7_13, s7_14, s7_15, s7_16, s7_17, s7_18, s7_19, s7_20, s7_21, s7_22, s7_23, s7_24, s7_25, s7_26, s7_27, s7_28, s7_29, s7_30, s7_31, s7_32, s7_33, s7_34, s7_35, s7_36, s7_37, s7_38, s7_39, s7_40, s7_41, s7_42, s7_43, s7_44, s7_45, s7_46, s7_47, s7_48, s7_j0, s7_49, s7_50, s7_51, s7_52, s7_53, s7_54, s7_b1, s7_55, s7_56, s7_57, s7_58, s7_59, s7_60, s7_61, s7_62, s7_63, s7_64, s7_65, s7_66, s7_67, s7_68, s7_69, s7_70, s7_71, s7_72, s7_73, s7_74, s7_75, s7_76, s7_77, s7_78, s7, xalloc, xlen, AV.cells, splice, aload, astore, Nat.reduceAdd, Nat.reduceLeDiff, reduceIte, allB]
  rw [evb_other (by decide)]
  refine W_call (parse_spec (by omega) (ht.pur (Pur.push H1 _)) 0 o hrow) ?_
  rintro _ H2 ⟨v1, rfl, hv1, p2⟩
  refine ⟨p2.1, ?_⟩
  obtain ⟨c1, rfl, n1, o1⟩ := hv1.cells
  have hlen := fun H' => ht.len' H'
  have hb1 := p1.1
  have hb2 := p2.1
  simp only [AHeap.next_push] at hb2
  have hp : Pur H H2 := (p1.then_push _).trans p2
  by_cases hc : n = 0 ∨ (n : Int) + o ≤ 50
  · rw [if_pos hc] at hres
    have hps : parseS e s' = (e, ((deepT w n).length : Int) - 1, 0, 0) := by simp [parseS, hres.1, hres.2]
    rw [hps]
    have w1 : IntKind.i64.wrap (((deepT w n).length : Int) - 1) = ((deepT w n).length : Int) - 1 := by
      have hl : 1 ≤ (deepT w n).length ∧ (deepT w n).length ≤ 200 := by rw [deepT_len]; split <;> (try split) <;> omega
      exact wrap_i64 (by omega) (by omega)
    by_cases hz : n = 0
    · have hz' : ((n : Int) == 0) = true := by simp [hz]
      simp -implicitDefEqProofs (disch := first | assumption | omega | (simp only [nxB]; omega) | (simp only [oneB])) only [s7_0, s7_1, s7_2, s7_3, s7_4, s7_5, s7_6, s7_7, s7_8, s7_9, s7_10, s7_11, s7_12, s7_13, s7_14, s7_15, s7_16, s7_17, s7_18, s7_19, s7_20, s7_21, s7_22, s7_23, s7_24, s7_25, s7_26, s7_27, s7_28, s7_29, s7_30, s7_31, s7_32, s7_33, s7_34, s7_35, s7_36, s7_37, s7_38, s7_39, s7_40, s7_41, s7_42, s7_43, s7_44, s7_45, s7_46, s7_47, s7_48, s7_j0, s7_49, s7_50, s7_51, s7_52, s7_53, s7_54, s7_b1, s7_55, s7_56, s7_57, s7_58, s7_59, s7_60, s7_61, s7_62, s7_63, s7_64, s7_65, s7_66, s7_67, s7_68, s7_69, s7_70, s7_71, s7_72, s7_73, s7_74, s7_75, s7_76, s7_77, s7_78, s7, xalloc, xlen, AV.cells, splice, aload, astore, Nat.reduceAdd, Nat.reduceLeDiff, reduceIte, allB, AHeap.push_set_lt, n1, o1, List.append_nil, hz', beq_self_eq_true, hlen, w1, evb_self, xeff, Nat.le_refl, decide_true]
      exact W_some.2 ⟨rfl, by simp only [AHeap.next_push]; omega⟩
    · have hz' : ((n : Int) == 0) = false := by simp [hz]
      have hs : IntKind.i64.wrap ((n : Int) + o) = (n : Int) + o := wrap_i64 (by omega) (by omega)
      have hle : (n : Int) + o ≤ 50 := by omega
      simp -implicitDefEqProofs (disch := first | assumption | omega | (simp only [nxB]; omega) | (simp only [oneB])) only [s7_0, s7_1, s7_2, s7_3, s7_4, s7_5, s7_6, s7_7, s7_8, s7_9, s7_10, s7_11, s7_12, s7_13, s7_14, s7_15, s7_16, s7_17, s7_18, s7_19, s7_20, s7_21, s7_22, s7_23, s7_24, s7_25, s7_26, s7_27, s7_28, s7_29, s7_30, s7_31, s7_32, s7_33, s7_34, s7_35, s7_36, s7_37, s7_38, s7_39, s7_40, s7_41, s7_42, s7_43, s7_44, s7_45, s7_46, s7_47, s7_48, s7_j0, s7_49, s7_50, s7_51, s7_52, s7_53, s7_54, s7_b1, s7_55, s7_56, s7_57, s7_58, s7_59, s7_60, s7_61, s7_62, s7_63, s7_64, s7_65, s7_66, s7_67, s7_68, s7_69, s7_70, s7_71, s7_72, s7_73, s7_74, s7_75, s7_76, s7_77, s7_78, s7, xalloc, xlen, AV.cells, splice, aload, astore, Nat.reduceAdd, Nat.reduceLeDiff, reduceIte, allB, AHeap.push_set_lt, n1, o1, List.append_nil, hz', hs, hle, beq_self_eq_true, hlen, w1, evb_self, xeff, Nat.le_refl, decide_true]
      exact W_some.2 ⟨rfl, by simp only [AHeap.next_push]; omega⟩
  · rw [if_neg hc] at hres
    have hps : parseS e s' = (.zero, 0, 4, (max (50 - o) 0) * (A.length : Int) + A.length - 1) := by
      simp [parseS, hres.1, hres.2]
    rw [hps]
    have hz' : ((n : Int) == 0) = false := by simp; omega
    have hs : IntKind.i64.wrap ((n : Int) + o) = (n : Int) + o := wrap_i64 (by omega) (by omega)
    have hle : ¬ (n : Int) + o ≤ 50 := by omega
    have s1 : IntKind.i64.wrap (50 - o) = 50 - o := IntWalk.i64_in _ ⟨by omega, by omega⟩
    obtain ⟨K, hK⟩ : ∃ K : Nat, (if 50 - o < 0 then (0 : Int) else 50 - o) = (K : Int) ∧ max (50 - o) 0 = (K : Int) ∧ K ≤ 50 := by
      by_cases hh : 50 - o < 0
      · exact ⟨0, by rw [if_pos hh]; rfl, by omega, by omega⟩
      · exact ⟨(50 - o).toNat, by rw [if_neg hh]; omega, by omega, by omega⟩
    have mK : K * A.length ≤ 50 * 2 := Nat.mul_le_mul hK.2.2 la.1
    have s2 : IntKind.i64.wrap ((K : Int) * (A.length : Int)) = ((K * A.length : Nat) : Int) := by
      have e1 : (K : Int) * (A.length : Int) = ((K * A.length : Nat) : Int) := by simp
      rw [e1]; exact wrap_i64 (by omega) (by omega)
    have s3 : IntKind.i64.wrap (((K * A.length : Nat) : Int) + (A.length : Int)) = ((K * A.length + A.length : Nat) : Int) := by rw [wrap_i64 (by omega) (by omega)]; omega
    have s4 : IntKind.i64.wrap (((K * A.length + A.length : Nat) : Int) - 1) = ((K * A.length + A.length : Nat) : Int) - 1 := wrap_i64 (by omega) (by omega)
    have s5 : (K : Int) * (A.length : Int) + (A.length : Int) - 1 = ((K * A.length + A.length : Nat) : Int) - 1 := by simp
    rw [hK.2.1, s5]
    simp -implicitDefEqProofs (disch := first | assumption | omega | (simp only [nxB]; omega) | (simp only [oneB])) only [s7_0, s7_1, s7_2, s7_3, s7_4, s7_5, s7_6, s7_7, s7_8, s7_9, s7_10, s7_11, s7_12, s7_13, s7_14, s7_15, s7_16, s7_17, s7_18, s7_19, s7_20, s7_21, s7_22, s7_23, s7_24, s7_25, s7_26, s7_27, s7_28, s7_29, s7_30, s7_31, s7_32, s7_33, s7_34, s7_35, s7_36, s7_37, s7_38, s7_39, s7_40, s7_41, s7_42, s7_43, s7_44, s7_45, s7_46, s7_47, s7_48, s7_j0, s7_49, s7_50, s7_51, s7_52, s7_53, s7_54, s7_b1, s7_55, s7_56, s7_57, s7_58, s7_59, s7_60, s7_61, s7_62, s7_63, s7_64, s7_65, s7_66, s7_67, s7_68, s7_69, s7_70, s7_71, s7_72, s7_73, s7_74, s7_75, s7_76, s7_77, s7_78, s7, xalloc, xlen, AV.cells, splice, aload, astore, Nat.reduceAdd, Nat.reduceLeDiff, reduceIte, allB, AHeap.push_set_lt, n1, o1, List.append_nil, hz', hs, hle, decide_false, s1, mx3, hK.1, mul3', s2, s3, s4, eq25, beq_self_eq_true, Bool.and_self, evb_self, xeff, Nat.le_refl, decide_true]
    exact W_some.2 ⟨rfl, by simp only [AHeap.next_push]; omega⟩
theorem deep_run {H : AHeap} (n way o : Int) : W (s7 (evb P 17 true) 70 (.int .i64 n) (.int .i64 way) (.int .i64 o) H) fun v H' => v = .bool true ∧ H.next ≤ H'.next := by
  by_cases c1 : n < 0
  · simp -implicitDefEqProofs (disch := first | assumption | omega | (simp only [nxB]; omega) | (simp only [oneB])) only [s7_0, s7_1, s7_2, s7_3, s7_4, s7_5, s7_6, s7_7, s7_8, s7_9, s7_10, s7_11, s7_12, s7_13, s7_14, s7_15, s7_16, s7_17, s7_18, s7_19, s7_20, s7_21, s7_22, s7_23, s7_24, s7_25, s7_26, s7_27, s7_28, s7_29, s7_30, s7_31, s7_32, s7_33, s7_34, s7_35, s7_36, s7_37, s7_38, s7_39, s7_40, s7_41, s7_42, s7_43, s7_44, s7_45, s7_46, s7_47, s7_48, s7_49, s7_50, s7_51, s7_52, s7_53, s7_54, s7_55, s7_56, s7_57, s7_58, s7_59, s7_60, s7_61, s7_62, s7_63, s7_64, s7_65, s7_66, s7_67, s7_68, s7_69, s7_70, s7_71, s7_72, s7_73, s7_74, s7_75, s7_76, s7_77, s7_78, s7, xalloc, xlen, evB, binB, c1, decide_true]
    exact W_some.2 ⟨rfl, Nat.le_refl _⟩
  by_cases c2 : 60 < n
  · simp -implicitDefEqProofs (disch := first | assumption | omega | (simp only [nxB]; omega) | (simp only [oneB])) only [s7_0, s7_1, s7_2, s7_3, s7_4, s7_5, s7_6, s7_7, s7_8, s7_9, s7_10, s7_11, s7_12, s7_13, s7_14, s7_15, s7_16, s7_17, s7_18, s7_19, s7_20, s7_21, s7_22, s7_23, s7_24, s7_25, s7_26, s7_27, s7_28, s7_29, s7_30, s7_31, s7_32, s7_33, s7_34, s7_35, s7_36, s7_37, s7_38, s7_39, s7_40, s7_41, s7_42, s7_43, s7_44, s7_45, s7_46, s7_47, s7_48, s7_49, s7_50, s7_51, s7_52, s7_53, s7_54, s7_55, s7_56, s7_57, s7_58, s7_59, s7_60, s7_61, s7_62, s7_63, s7_64, s7_65, s7_66, s7_67, s7_68, s7_69, s7_70, s7_71, s7_72, s7_73, s7_74, s7_75, s7_76, s7_77, s7_78, s7, xalloc, xlen, evB, binB, c1, c2, decide_true, decide_false]
    exact W_some.2 ⟨rfl, Nat.le_refl _⟩
  by_cases c3 : way < 0
  · simp -implicitDefEqProofs (disch := first | assumption | omega | (simp only [nxB]; omega) | (simp only [oneB])) only [s7_0, s7_1, s7_2, s7_3, s7_4, s7_5, s7_6, s7_7, s7_8, s7_9, s7_10, s7_11, s7_12, s7_13, s7_14, s7_15, s7_16, s7_17, s7_18, s7_19, s7_20, s7_21, s7_22, s7_23, s7_24, s7_25, s7_26, s7_27, s7_28, s7_29, s7_30, s7_31, s7_32, s7_33, s7_34, s7_35, s7_36, s7_37, s7_38, s7_39, s7_40, s7_41, s7_42, s7_43, s7_44, s7_45, s7_46, s7_47, s7_48, s7_49, s7_50, s7_51, s7_52, s7_53, s7_54, s7_55, s7_56, s7_57, s7_58, s7_59, s7_60, s7_61, s7_62, s7_63, s7_64, s7_65, s7_66, s7_67, s7_68, s7_69, s7_70, s7_71, s7_72, s7_73, s7_74, s7_75, s7_76, s7_77, s7_78, s7, xalloc, xlen, evB, binB, c1, c2, c3, decide_true, decide_false]
    exact W_some.2 ⟨rfl, Nat.le_refl _⟩
  by_cases c4 : 3 < way
  · simp -implicitDefEqProofs (disch := first | assumption | omega | (simp only [nxB]; omega) | (simp only [oneB])) only [s7_0, s7_1, s7_2, s7_3, s7_4, s7_5, s7_6, s7_7, s7_8, s7_9, s7_10, s7_11, s7_12, s7_13, s7_14, s7_15, s7_16, s7_17, s7_18, s7_19, s7_20, s7_21, s7_22, s7_23, s7_24, s7_25, s7_26, s7_27, s7_28, s7_29, s7_30, s7_31, s7_32, s7_33, s7_34, s7_35, s7_36, s7_37, s7_38, s7_39, s7_40, s7_41, s7_42, s7_43, s7_44, s7_45, s7_46, s7_47, s7_48, s7_49, s7_50, s7_51, s7_52, s7_53, s7_54, s7_55, s7_56, s7_57, s7_58, s7_59, s7_60, s7_61, s7_62, s7_63, s7_64, s7_65, s7_66, s7_67, s7_68, s7_69, s7_70, s7_71, s7_72, s7_73, s7_74, s7_75, s7_76, s7_77, s7_78, s7, xalloc, xlen, evB, binB, c1, c2, c3, c4, decide_true, decide_false]
    exact W_some.2 ⟨rfl, Nat.le_refl _⟩
  by_cases c5 : o < 0
  · simp -implicitDefEqProofs (disch := first | assumption | omega | (simp only [nxB]; omega) | (simp only [oneB])) only [s7_0, s7_1, s7_2, s7_3, s7_4, s7_5, s7_6, s7_7, s7_8, s7_9, s7_10, s7_11, s7_12, s7_13, s7_14, s7_15, s7_16, s7_17, s7_18, s7_19, s7_20, s7_21, s7_22, s7_23, s7_24, s7_25, s7_26, s7_27, s7_28, s7_29, s7_30, s7_31, s7_32, s7_33, s7_34, s7_35, s7_36, s7_37, s7_38, s7_39, s7_40, s7_41, s7_42, s7_43, s7_44, s7_45, s7_46, s7_47, s7_48, s7_49, s7_50, s7_51, s7_52, s7_53, s7_54, s7_55, s7_56, s7_57, s7_58, s7_59, s7_60, s7_61, s7_62, s7_63, s7_64, s7_65, s7_66, s7_67, s7_68, s7_69, s7_70, s7_71, s7_72, s7_73, s7_74, s7_75, s7_76, s7_77, s7_78, s7, xalloc, xlen, evB, binB, c1, c2, c3, c4, c5, decide_true, decide_false]
    exact W_some.2 ⟨rfl, Nat.le_refl _⟩
  by_cases c6 : 60 < o
  · simp -implicitDefEqProofs (disch := first | assumption | omega | (simp only [nxB]; omega) | (simp only [oneB])) only [s7_0, s7_1, s7_2, s7_3, s7_4, s7_5, s7_6, s7_7, s7_8, s7_9, s7_10, s7_11, s7_12, s7_13, s7_14, s7_15, s7_16, s7_17, s7_18, s7_19, s7_20, s7_21, s7_22, s7_23, s7_24, s7_25, s7_26, s7_27, s7_28, s7_29, s7_30, s7_31, s7_32, s7_33, s7_34, s7_35, s7_36, s7_37, s7_38, s7_39, s7_40, s7_41, s7_42, s7_43, s7_44, s7_45, s7_46, s7_47, s7_48, s7_49, s7_50, s7_51, s7_52, s7_53, s7_54, s7_55, s7_56, s7_57, s7_58, s7_59, s7_60, s7_61, s7_62, s7_63, s7_64, s7_65, s7_66, s7_67, s7_68, s7_69, s7_70, s7_71, s7_72, s7_73, s7_74, s7_75, s7_76, s7_77, s7_78, s7, xalloc, xlen, evB, binB, c1, c2, c3, c4, c5, c6, decide_true, decide_false]
    exact W_some.2 ⟨rfl, Nat.le_refl _⟩
  obtain ⟨k, rfl⟩ : ∃ k : Nat, n = k := ⟨n.toNat, by omega⟩
  obtain ⟨w, rfl⟩ : ∃ w : Nat, way = w := ⟨way.toNat, by omega⟩
  have hw : w < 4 := by omega
  have hwi : ((w : Int)).toNat = w := by omega
  have w0 : (0 : Int) ≤ (w : Int) := by omega
  have w4 : (w : Int) < ((4 : Nat) : Int) := by omega
  have ra : ([[AV.str [45]], [.str [40]], [.str [102, 40]], [.str [120, 91]]] : List (List AV))[w]? = some [.str (deepA w)] := by
    have : w = 0 ∨ w = 1 ∨ w = 2 ∨ w = 3 := by omega
    rcases this with rfl | rfl | rfl | rfl <;> rfl
  have rb : ([[AV.str []], [.str [41]], [.str [41]], [.str [93]]] : List (List AV))[w]? = some [.str (deepB w)] := by
    have : w = 0 ∨ w = 1 ∨ w = 2 ∨ w = 3 := by omega
    rcases this with rfl | rfl | rfl | rfl <;> rfl
  have la : (deepA w).length ≤ 2 ∧ (deepB w).length ≤ 2 := by
    have : w = 0 ∨ w = 1 ∨ w = 2 ∨ w = 3 := by omega
    rcases this with rfl | rfl | rfl | rfl <;> simp [deepA, deepB]
  generalize hA : ([[AV.str [45]], [.str [40]], [.str [102, 40]], [.str [120, 91]]] : List (List AV)) = RA at ra
  generalize hB : ([[AV.str []], [.str [41]], [.str [41]], [.str [93]]] : List (List AV)) = RB at rb
  simp -implicitDefEqProofs (disch := first | assumption | omega | (simp only [nxB]; omega) | (simp only [oneB])) only [s7_0, s7_1, s7_2, s7_3, s7_4, s7_5, s7_6, s7_7, s7_8, s7_9, s7_10, s7_11, s7_12, s7_13, s7_14, s7_15, s7_16, s7_17, s7_18, s7_19, s7_20, s7_21, s7_22, s7_23, s7_24, s7_25, s7_26, s7_27, s7_28, s7_29, s7_30, s7_31, s7_32, s7_33, s7_34, s7_35, s7_36, s7_37, s7_38, s7_39, s7_40, s7_41, s7_42, s7_43, s7_44, s7_45, s7_46, s7_47, s7_48, s7_49, s7_50, s7_51, s7_52, s7_53, s7_54, s7_55, s7_56, s7_57, s7_58, s7_59, s7_60, s7_61, s7_62, s7_63, s7_64, s7_65, s7_66, s7_67, s7_68, s7_69, s7_70, s7_71, s7_72, s7_73, s7_74, s7_75, s7_76, s7_77, s7_78, s7, xalloc, xlen, AV.cells, splice, aload, astore, Nat.reduceAdd, Nat.reduceLeDiff, reduceIte, allB, hA, hB, c1, c2, c3, c4, c5, c6, decide_false, hwi, ra, rb, only_get2, Bool.or_true, Bool.true_or, Bool.and_self, cond_true]
  refine (deep_loop (G := evb P 17 true) (N := 70) (n := k) (by omega) (o := o) la.1 la.2 (H := (H.push (.row false 1 RA)).push (.row false 1 RB)) (deep_end hw (by omega) (by omega) (by omega) 70) k 0 70 (by omega) (by omega)).mono ?_
  rintro v H' ⟨rfl, q⟩
  simp only [AHeap.next_push] at q
  exact ⟨rfl, by omega⟩
set_option maxRecDepth 100000 in
theorem deep_ok (n way o : Int) : ∃ H', CallOk1 P 7 [.int .i64 n, .int .i64 way, .int .i64 o] AHeap.empty (.bool true) H' := by
  obtain ⟨_, H', h, rfl, p⟩ := deep_run (H := AHeap.empty) n way o
  exact ⟨H', code_ok1 (c := bodyOf Try.f7) (M := 70) progOk (evb_ok progOk known3) Try.func7 (by kernel_rfl) (by kernel_rfl) (by kernel_rfl) (Eq.trans (s7_eq (evb P 17 true) 70 (.int .i64 n) (.int .i64 way) (.int .i64 o) AHeap.empty) h)⟩
end Go.Proofs.Ytnjoomfeddamcaa

