/-
  Texts of one proof, laid together: D1 P1 P2 P3 P3b P4.
-/
import Derived.Test.YtnjoomfeddamcaaMI
import Derived.Test.YtnjoomfeddamcaaML
import Derived.Test.YtnjoomfeddamcaaMJ
set_option linter.unusedVariables false
set_option linter.unusedSimpArgs false
namespace Go.Proofs.Ytnjoomfeddamcaa
open Go.Ev
theorem w64_1 {a : Int} (h0 : 0 ≤ a) (h1 : a ≤ 1000000) : w64 (a + 1) = a + 1 := wrap_i64 (by omega) (by omega)
theorem w64_m {a : Int} (h0 : 1 ≤ a) (h1 : a ≤ 1000000) : w64 (a - 1) = a - 1 := wrap_i64 (by omega) (by omega)
def StopAt (T : List Tok) (s : St) : Prop := s.fe ≠ 0 ∨ (tokAt T s.at_).kind = 0 ∨ ((tokAt T s.at_).kind = 4 ∧ ((tokAt T s.at_).text = [41] ∨ (tokAt T s.at_).text = [93]))
theorem StopAt.kind {T : List Tok} {s : St} (h : StopAt T s) (lev : Nat) (hl : lev < 5) : kindS T lev s = 0 := by
  rcases h with h | h | ⟨h, h'⟩
  · exact kindS_failed h lev
  · exact kindL_other (by rw [h]; decide) _
  · have : lev = 0 ∨ lev = 1 ∨ lev = 2 ∨ lev = 3 ∨ lev = 4 := by omega
    rcases this with rfl | rfl | rfl | rfl | rfl <;> rcases h' with h' | h' <;> simp [kindS, kindL, lvls, isB, h']
theorem StopAt.chain {T : List Tok} {s : St} (h : StopAt T s) (n : Nat) (e : Ex) : chainL T (n + 1) e s = some (e, s) := by
  rcases h with h | h | ⟨h, h'⟩
  · have hb : (s.fe == 0) = false := by simpa using h
    simp [chainL, hb]
  · simp [chainL, h]
  · cases hb : (s.fe == 0) with
    | false => simp [chainL, hb]
    | true => rcases h' with h' | h' <;> simp [chainL, hb, h, h']
theorem rowF_wrap {T : List Tok} {m : Nat} {s s1 : St} {e : Ex} (h : unaryF T m s = some (e, s1)) (hs : StopAt T s1) (hm : 1 ≤ m) : rowF T (m + 6) 0 s = some (e, s1) := by
  have hk := hs.kind
  obtain ⟨m, rfl⟩ : ∃ k, m = k + 1 := ⟨m - 1, by omega⟩
  have h5 : rowF T (m + 1 + 1) 5 s = some (e, s1) := by rw [rowF]; exact h
  have step : ∀ (lev f : Nat), lev < 5 → rowF T (f + 1) (lev + 1) s = some (e, s1) → rowF T (f + 1 + 1) lev s = some (e, s1) := by
    intro lev f hl hr
    have hne : ¬ lev = 5 := by omega
    rw [rowF]
    simp only [hne, if_false, hr, Option.bind_some]
    rw [rowL, if_pos (hk lev hl)]
  exact step 0 _ (by omega) (step 1 _ (by omega) (step 2 _ (by omega) (step 3 _ (by omega) (step 4 _ (by omega) h5))))
theorem unary_chain {T : List Tok} {n : Nat} {s s1 : St} {e e1 : Ex} (hk : (tokAt T s.at_).kind = 4 → (tokAt T s.at_).text ≠ [45] ∧ (tokAt T s.at_).text ≠ [33]) (hf : firstF T (n + 1) s = some (e, s1)) {s2 : St} (hc : chainL T (n + 1) e s1 = some (e1, s2)) : unaryF T (n + 3) s = some (e1, s2) := by
  have h1 : isB T s 4 [45] = false := by
    by_cases h : (tokAt T s.at_).kind = 4
    · simp [isB, (hk h).1]
    · simp [isB, h]
  have h2 : isB T s 4 [33] = false := by
    by_cases h : (tokAt T s.at_).kind = 4
    · simp [isB, (hk h).2]
    · simp [isB, h]
  rw [unaryF, h1, h2]
  simp only [cond_false]
  rw [chainF, hf]
  exact hc
def DeepRes (j : Nat) (o : Int) (end_ : Int) (bad : Int → Int) (s' : St) : Prop :=
  if j = 0 ∨ (j : Int) + o ≤ 50 then s' = ⟨end_, o, 0, 0⟩ else s'.fe = 4 ∧ s'.fa = bad (max (50 - o) 0)
theorem tok_map {f : Nat → Tok} {L k : Nat} (h : k < L) : tokAt ((List.range L).map f) (k : Int) = f k := by
  unfold tokAt
  rw [if_neg (by simp; omega)]
  simp [h]
theorem tok_map' {f : Nat → Tok} {L k : Nat} {i : Int} (hi : i = k) (h : k < L) : tokAt ((List.range L).map f) i = f k := by rw [hi]; exact tok_map h
def tk0 (n i : Nat) : Tok := if i < n then ⟨4, [45], 0, i⟩ else if i = n then ⟨2, [], 1, i⟩ else ⟨0, [], 0, i⟩
theorem deep0 {n : Nat} (hn : n ≤ 60) : ∀ (j i f : Nat) (o : Int), i + j = n → 0 ≤ o → o ≤ 100 → 3 * j + 10 ≤ f →
    ∃ e s', unaryF ((List.range (n + 2)).map (tk0 n)) f ⟨i, o, 0, 0⟩ = some (e, s') ∧ DeepRes j o (n + 1) (fun k => i + k) s'
  | 0, i, f, o, hij, h0, h1, hf => by
    obtain ⟨f, rfl⟩ : ∃ m, f = m + 3 := ⟨f - 3, by omega⟩
    obtain rfl : i = n := by omega
    have ht : tokAt ((List.range (i + 2)).map (tk0 i)) ((i : Nat) : Int) = ⟨2, [], 1, i⟩ := by rw [tok_map (by omega)]; simp [tk0]
    have ht' : tokAt ((List.range (i + 2)).map (tk0 i)) ((i : Int) + 1) = ⟨0, [], 0, ((i + 1 : Nat) : Int)⟩ := by rw [tok_map' (k := i + 1) (by omega) (by omega)]; simp [tk0]
    refine ⟨_, ⟨(i : Int) + 1, o, 0, 0⟩, unary_chain (by simp [ht]) (e := .mk { kind := 1, n := 1, pos := i } []) (s1 := ⟨(i : Int) + 1, o, 0, 0⟩) ?_ (StopAt.chain (.inr (.inl (by rw [ht']))) _ _), by simp [DeepRes]⟩
    simp [firstF, ht, goS, w64_1 (a := (i : Int)) (by omega) (by omega)]
  | j + 1, i, f, o, hij, h0, h1, hf => by
    obtain ⟨f, rfl⟩ : ∃ m, f = m + 2 := ⟨f - 2, by omega⟩
    have ht : tokAt ((List.range (n + 2)).map (tk0 n)) ((i : Nat) : Int) = ⟨4, [45], 0, i⟩ := by rw [tok_map (by omega)]; simp [tk0]; omega
    have hi : isB ((List.range (n + 2)).map (tk0 n)) ⟨i, o, 0, 0⟩ 4 [45] = true := by simp [isB, ht]
    rw [unaryF, hi, cond_true, signF]
    by_cases ho : 50 ≤ o
    · refine ⟨.zero, failS ((List.range (n + 2)).map (tk0 n)) 4 ⟨i, o, 0, 0⟩, by simp [opensS, hi, ho], ?_⟩
      rw [DeepRes, if_neg (by omega)]
      simp only [failS, if_true, ht, true_and]
      omega
    · obtain ⟨e, s', h2, h3⟩ := deep0 hn j (i + 1) f (o + 1) (by omega) (by omega) (by omega) (by omega)
      have hop : opensS ((List.range (n + 2)).map (tk0 n)) [45] ⟨i, o, 0, 0⟩ = (true, ⟨((i + 1 : Nat) : Int), o + 1, 0, 0⟩) := by
        simp [opensS, hi, ho, w64_1 (a := (i : Int)) (by omega) (by omega), w64_1 (a := o) h0 (by omega)]
      refine ⟨.mk { kind := 12, pos := i } [e], outS s', by simp only [hop, h2, ht, cond_true, Option.bind_some], ?_⟩
      unfold DeepRes at h3 ⊢
      by_cases hc : j = 0 ∨ (j : Int) + (o + 1) ≤ 50
      · rw [if_pos hc] at h3
        rw [if_pos (by omega), h3]
        simp only [outS, w64_m (a := o + 1) (by omega) (by omega)]
        congr 1; omega
      · rw [if_neg hc] at h3
        rw [if_neg (by omega)]
        refine ⟨h3.1, ?_⟩
        show s'.fa = _
        rw [h3.2]
        simp only
        omega
theorem closes_good {T : List Tok} {x : Bs} {a o : Int} (ha : 0 ≤ a) (ha' : a ≤ 1000000) (ho : 1 ≤ o) (ho' : o ≤ 1000000) (ht : (tokAt T a).kind = 4) (hx : (tokAt T a).text = x) : (closesS T x ⟨a, o, 0, 0⟩).2 = ⟨a + 1, o - 1, 0, 0⟩ := by
  have hi : isB T (outS ⟨a, o, 0, 0⟩) 4 x = true := by simp [isB, outS, ht, hx]
  simp only [closesS, wantsS, hi, cond_true]
  simp [goS, outS, w64_1 ha ha', w64_m ho ho']
theorem closes_bad {T : List Tok} {x : Bs} {s : St} (h : s.fe ≠ 0) : (closesS T x s).2.fe = s.fe ∧ (closesS T x s).2.fa = s.fa := by
  have ho : (outS s).fe ≠ 0 := h
  simp only [closesS, wantsS, isB_failed ho, cond_false, failS_failed ho]
  exact ⟨rfl, rfl⟩
theorem opens_go {T : List Tok} {x : Bs} {a o : Int} (ha : 0 ≤ a) (ha' : a ≤ 1000000) (ho : 0 ≤ o) (ho' : o < 50) (ht : (tokAt T a).kind = 4) (hx : (tokAt T a).text = x) : opensS T x ⟨a, o, 0, 0⟩ = (true, ⟨a + 1, o + 1, 0, 0⟩) := by
  have hi : isB T ⟨a, o, 0, 0⟩ 4 x = true := by simp [isB, ht, hx]
  have h5 : ¬ 50 ≤ o := by omega
  simp [opensS, hi, h5, w64_1 ha ha', w64_1 ho (by omega)]
theorem opens_no {T : List Tok} {x : Bs} {a o : Int} (ho : 50 ≤ o) (ht : (tokAt T a).kind = 4) (hx : (tokAt T a).text = x) : ∃ s', opensS T x ⟨a, o, 0, 0⟩ = (false, s') ∧ s'.fe = 4 ∧ s'.fa = (tokAt T a).pos := by
  have hi : isB T ⟨a, o, 0, 0⟩ 4 x = true := by simp [isB, ht, hx]
  exact ⟨failS T 4 ⟨a, o, 0, 0⟩, by simp [opensS, hi, ho], by simp [failS], by simp [failS]⟩
theorem single_res {T : List Tok} {x y : Bs} {a o c : Int} {m : Nat} {j : Nat} {bad : Int → Int} (ha : 0 ≤ a) (ha' : a ≤ 1000) (hc : 0 ≤ c) (hc' : c ≤ 1000) (ho : 0 ≤ o) (ho' : o ≤ 100) (ht : (tokAt T a).kind = 4) (hx : (tokAt T a).text = x) (hp : (tokAt T a).pos = bad 0) (htc : (tokAt T c).kind = 4) (hxc : (tokAt T c).text = y)
    (ih : o < 50 → ∃ e s', rowF T m 0 ⟨a + 1, o + 1, 0, 0⟩ = some (e, s') ∧ DeepRes j (o + 1) c (fun k => bad (k + 1)) s') : ∃ e s', singleF T (m + 1) x y ⟨a, o, 0, 0⟩ = some (e, s') ∧ DeepRes (j + 1) o (c + 1) bad s' := by
  rw [singleF]
  by_cases h5 : 50 ≤ o
  · obtain ⟨s', h1, h2, h3⟩ := opens_no h5 ht hx
    refine ⟨.zero, s', by simp only [h1, cond_false], ?_⟩
    rw [DeepRes, if_neg (by omega)]
    refine ⟨h2, ?_⟩
    rw [h3, hp]; congr 1; omega
  · obtain ⟨e, s', h1, h2⟩ := ih (by omega)
    refine ⟨e, (closesS T y s').2, by simp only [opens_go ha (by omega) ho (by omega) ht hx, cond_true, h1, Option.bind_some], ?_⟩
    unfold DeepRes at h2 ⊢
    by_cases hj : j = 0 ∨ (j : Int) + (o + 1) ≤ 50
    · rw [if_pos hj] at h2
      rw [if_pos (by omega), h2, closes_good hc (by omega) (by omega) (by omega) htc hxc]
      congr 1; omega
    · rw [if_neg hj] at h2
      rw [if_neg (by omega)]
      have hne : s'.fe ≠ 0 := by rw [h2.1]; decide
      rw [(closes_bad hne).1, (closes_bad hne).2]
      refine ⟨h2.1, ?_⟩
      rw [h2.2]; simp only; congr 1; omega
theorem DeepRes.stop {T : List Tok} {j : Nat} {o c : Int} {bad : Int → Int} {s' : St} (h : DeepRes j o c bad s') (hs : (tokAt T c).kind = 0 ∨ ((tokAt T c).kind = 4 ∧ ((tokAt T c).text = [41] ∨ (tokAt T c).text = [93]))) : StopAt T s' := by
  unfold DeepRes at h
  split at h
  · rw [h]; exact .inr hs
  · exact .inl (by rw [h.1]; decide)
theorem deep_one {T : List Tok} {a o : Int} {v p : Int} {f : Nat} (ha : 0 ≤ a) (ha' : a ≤ 1000) (ht : tokAt T a = ⟨2, [], v, p⟩) (hs : (tokAt T (a + 1)).kind = 0 ∨ ((tokAt T (a + 1)).kind = 4 ∧ ((tokAt T (a + 1)).text = [41] ∨ (tokAt T (a + 1)).text = [93]))) (hf : 10 ≤ f) (bad : Int → Int) : ∃ e s', rowF T f 0 ⟨a, o, 0, 0⟩ = some (e, s') ∧ DeepRes 0 o (a + 1) bad s' := by
  obtain ⟨f, rfl⟩ : ∃ m, f = m + 3 + 6 := ⟨f - 9, by omega⟩
  have hst : StopAt T ⟨a + 1, o, 0, 0⟩ := .inr hs
  refine ⟨_, ⟨a + 1, o, 0, 0⟩, rowF_wrap (unary_chain (by simp [ht]) (e := .mk { kind := 1, n := v, pos := p } []) (s1 := ⟨a + 1, o, 0, 0⟩) ?_ (hst.chain _ _)) hst (by omega), by simp [DeepRes]⟩
  simp [firstF, ht, goS, w64_1 (a := a) ha (by omega)]
def tk1 (n i : Nat) : Tok := if i < n then ⟨4, [40], 0, i⟩ else if i = n then ⟨2, [], 1, i⟩ else if i ≤ 2 * n then ⟨4, [41], 0, i⟩ else ⟨0, [], 0, i⟩
theorem deep1 {n : Nat} (hn : n ≤ 60) : ∀ (j i f : Nat) (o : Int), i + j = n → 0 ≤ o → o ≤ 100 → 20 * j + 20 ≤ f →
    ∃ e s', rowF ((List.range (2 * n + 2)).map (tk1 n)) f 0 ⟨i, o, 0, 0⟩ = some (e, s') ∧ DeepRes j o (n + j + 1) (fun k => i + k) s'
  | 0, i, f, o, hij, h0, h1, hf => by
    obtain rfl : i = n := by omega
    have ht : tokAt ((List.range (2 * i + 2)).map (tk1 i)) ((i : Nat) : Int) = ⟨2, [], 1, i⟩ := by rw [tok_map (by omega)]; simp [tk1]
    have ht' : tokAt ((List.range (2 * i + 2)).map (tk1 i)) ((i : Int) + 1) = tk1 i (i + 1) := tok_map' (by omega) (by omega)
    have := deep_one (o := o) (by omega) (by omega) ht (by rw [ht', tk1, if_neg (by omega), if_neg (by omega)]; by_cases hz : i + 1 ≤ 2 * i <;> simp [hz]) (show 10 ≤ f by omega) (fun k => (i : Int) + k)
    simpa using this
  | j + 1, i, f, o, hij, h0, h1, hf => by
    obtain ⟨f, rfl⟩ : ∃ m, f = m + 2 + 1 + 1 + 6 := ⟨f - 10, by omega⟩
    have ht : tokAt ((List.range (2 * n + 2)).map (tk1 n)) ((i : Nat) : Int) = ⟨4, [40], 0, i⟩ := by rw [tok_map (by omega)]; simp [tk1]; omega
    have hc : tokAt ((List.range (2 * n + 2)).map (tk1 n)) ((n : Int) + j + 1) = ⟨4, [41], 0, ((n + j + 1 : Nat) : Int)⟩ := by
      rw [tok_map' (k := n + j + 1) (by omega) (by omega), tk1, if_neg (by omega), if_neg (by omega), if_pos (by omega)]
    obtain ⟨e, s', h2, h3⟩ := single_res (m := f) (j := j) (a := i) (o := o) (c := (n : Int) + j + 1) (bad := fun k => (i : Int) + k) (x := [40]) (y := [41]) (by omega) (by omega) (by omega) (by omega) h0 h1 (by rw [ht]) (by rw [ht]) (by rw [ht]; simp) (by rw [hc]) (by rw [hc])
      (fun h5 => by
        obtain ⟨e, s', q1, q2⟩ := deep1 hn j (i + 1) f (o + 1) (by omega) (by omega) (by omega) (by omega)
        have e1 : ((i + 1 : Nat) : Int) = (i : Int) + 1 := by omega
        rw [e1] at q1 q2
        exact ⟨e, s', q1, by simpa [Int.add_assoc, Int.add_comm 1] using q2⟩)
    have hst : StopAt ((List.range (2 * n + 2)).map (tk1 n)) s' := h3.stop (by
      rw [tok_map' (k := n + j + 2) (by omega) (by omega), tk1, if_neg (by omega), if_neg (by omega)]
      by_cases hz : n + j + 2 ≤ 2 * n <;> simp [hz])
    have hff : firstF ((List.range (2 * n + 2)).map (tk1 n)) (f + 1 + 1) ⟨i, o, 0, 0⟩ = some (e, s') := by
      rw [firstF]
      simp [ht]
      exact h2
    refine ⟨e, s', rowF_wrap (unary_chain (by simp [ht]) hff (hst.chain _ _)) hst (by omega), ?_⟩
    have e2 : (n : Int) + j + 1 + 1 = (n : Int) + ((j + 1 : Nat) : Int) + 1 := by omega
    rwa [e2] at h3
theorem list_res {T : List Tok} {a o c : Int} {m : Nat} {j : Nat} {bad : Int → Int} (ha : 0 ≤ a) (ha' : a ≤ 1000) (hc : 0 ≤ c) (hc' : c ≤ 1000) (ho : 0 ≤ o) (ho' : o ≤ 100) (ht : (tokAt T a).kind = 4) (hx : (tokAt T a).text = [40]) (hp : (tokAt T a).pos = bad 0) (htc : (tokAt T c).kind = 4) (hxc : (tokAt T c).text = [41]) (hno : (tokAt T (a + 1)).kind ≠ 4)
    (ih : o < 50 → ∃ e s', rowF T (m + 1) 0 ⟨a + 1, o + 1, 0, 0⟩ = some (e, s') ∧ DeepRes j (o + 1) c (fun k => bad (k + 1)) s') : ∃ e s', listF T (m + 1 + 1) ⟨a, o, 0, 0⟩ = some (e, s') ∧ DeepRes (j + 1) o (c + 1) bad s' := by
  rw [listF]
  by_cases h5 : 50 ≤ o
  · obtain ⟨s', h1, h2, h3⟩ := opens_no h5 ht hx
    refine ⟨[], s', by simp only [h1, cond_false], ?_⟩
    rw [DeepRes, if_neg (by omega)]
    refine ⟨h2, ?_⟩
    rw [h3, hp]; congr 1; omega
  · obtain ⟨e, s', h1, h2⟩ := ih (by omega)
    have hb : isB T ⟨a + 1, o + 1, 0, 0⟩ 4 [41] = false := by simp [isB, hno]
    have hk : isB T s' 4 [44] = false := by
      unfold DeepRes at h2
      split at h2
      · rw [h2]; simp [isB, hxc]
      · exact isB_failed (by rw [h2.1]; decide) _ _
    refine ⟨[e], (closesS T [41] s').2, by simp only [opens_go ha (by omega) ho (by omega) ht hx, cond_true, hb, cond_false, h1, Option.bind_some, listL, takesS, hk], ?_⟩
    unfold DeepRes at h2 ⊢
    by_cases hj : j = 0 ∨ (j : Int) + (o + 1) ≤ 50
    · rw [if_pos hj] at h2
      rw [if_pos (by omega), h2, closes_good hc (by omega) (by omega) (by omega) htc hxc]
      congr 1; omega
    · rw [if_neg hj] at h2
      rw [if_neg (by omega)]
      have hne : s'.fe ≠ 0 := by rw [h2.1]; decide
      rw [(closes_bad hne).1, (closes_bad hne).2]
      refine ⟨h2.1, ?_⟩
      rw [h2.2]; simp only; congr 1; omega
def tk2 (c x y : UInt8) (n i : Nat) : Tok := if i < 2 * n then (if i % 2 = 0 then ⟨1, [c], 0, i⟩ else ⟨4, [x], 0, i⟩) else if i = 2 * n then ⟨2, [], 1, i⟩ else if i ≤ 3 * n then ⟨4, [y], 0, i⟩ else ⟨0, [], 0, i⟩
section
variable {c x y : UInt8} {n : Nat}
theorem tk2_name {i : Nat} {a : Int} (ha : a = ((2 * i : Nat) : Int)) (h : i < n) : tokAt ((List.range (3 * n + 2)).map (tk2 c x y n)) a = ⟨1, [c], 0, ((2 * i : Nat) : Int)⟩ := by
  rw [tok_map' ha (by omega), tk2, if_pos (by omega), if_pos (by omega)]
theorem tk2_open {i : Nat} {a : Int} (ha : a = ((2 * i + 1 : Nat) : Int)) (h : i < n) : tokAt ((List.range (3 * n + 2)).map (tk2 c x y n)) a = ⟨4, [x], 0, ((2 * i + 1 : Nat) : Int)⟩ := by
  rw [tok_map' ha (by omega), tk2, if_pos (by omega), if_neg (by omega)]
theorem tk2_one {a : Int} (ha : a = ((2 * n : Nat) : Int)) : tokAt ((List.range (3 * n + 2)).map (tk2 c x y n)) a = ⟨2, [], 1, ((2 * n : Nat) : Int)⟩ := by
  rw [tok_map' ha (by omega), tk2, if_neg (by omega), if_pos rfl]
theorem tk2_close {i : Nat} {a : Int} (ha : a = ((2 * n + 1 + i : Nat) : Int)) (h : i < n) : tokAt ((List.range (3 * n + 2)).map (tk2 c x y n)) a = ⟨4, [y], 0, ((2 * n + 1 + i : Nat) : Int)⟩ := by
  rw [tok_map' ha (by omega), tk2, if_neg (by omega), if_neg (by omega), if_pos (by omega)]
theorem tk2_stop {i : Nat} {a : Int} (ha : a = ((2 * n + 1 + i : Nat) : Int)) (h : i ≤ n) (hy : y = 41 ∨ y = 93) : (tokAt ((List.range (3 * n + 2)).map (tk2 c x y n)) a).kind = 0 ∨ ((tokAt ((List.range (3 * n + 2)).map (tk2 c x y n)) a).kind = 4 ∧ ((tokAt ((List.range (3 * n + 2)).map (tk2 c x y n)) a).text = [41] ∨ (tokAt ((List.range (3 * n + 2)).map (tk2 c x y n)) a).text = [93])) := by
  rw [tok_map' ha (by omega), tk2, if_neg (by omega), if_neg (by omega)]
  by_cases hz : 2 * n + 1 + i ≤ 3 * n
  · rw [if_pos hz]; right; refine ⟨rfl, ?_⟩
    rcases hy with rfl | rfl
    · exact .inl rfl
    · exact .inr rfl
  · rw [if_neg hz]; exact .inl rfl
end
theorem deep2 {n : Nat} (hn : n ≤ 60) : ∀ (j i f : Nat) (o : Int), i + j = n → 0 ≤ o → o ≤ 100 → 20 * j + 20 ≤ f →
    ∃ e s', rowF ((List.range (3 * n + 2)).map (tk2 102 40 41 n)) f 0 ⟨((2 * i : Nat) : Int), o, 0, 0⟩ = some (e, s') ∧ DeepRes j o (2 * n + j + 1) (fun k => 2 * (i + k) + 1) s'
  | 0, i, f, o, hij, h0, h1, hf => by
    obtain rfl : i = n := by omega
    have := deep_one (o := o) (a := ((2 * i : Nat) : Int)) (by omega) (by omega) (tk2_one (c := 102) (x := 40) (y := 41) rfl) (tk2_stop (i := 0) (by omega) (by omega) (.inl rfl)) (show 10 ≤ f by omega) (fun k => 2 * ((i : Int) + k) + 1)
    have e1 : ((2 * i : Nat) : Int) + 1 = 2 * (i : Int) + ((0 : Nat) : Int) + 1 := by omega
    rw [e1] at this
    exact this
  | j + 1, i, f, o, hij, h0, h1, hf => by
    obtain ⟨f, rfl⟩ : ∃ m, f = m + 3 + 3 + 6 := ⟨f - 12, by omega⟩
    have ht := tk2_name (c := 102) (x := 40) (y := 41) (n := n) (i := i) rfl (by omega)
    have ho := tk2_open (c := 102) (x := 40) (y := 41) (n := n) (i := i) (a := ((2 * i : Nat) : Int) + 1) (by omega) (by omega)
    have hc := tk2_close (c := 102) (x := 40) (y := 41) (n := n) (i := j) (a := 2 * (n : Int) + j + 1) (by omega) (by omega)
    have hno : (tokAt ((List.range (3 * n + 2)).map (tk2 102 40 41 n)) (((2 * i : Nat) : Int) + 1 + 1)).kind ≠ 4 := by
      rw [tok_map' (k := 2 * i + 2) (by omega) (by omega), tk2]
      by_cases hz : 2 * i + 2 < 2 * n
      · rw [if_pos hz, if_pos (by omega)]; simp
      · rw [if_neg hz, if_pos (by omega)]; simp
    obtain ⟨e, s', h2, h3⟩ := list_res (m := f) (j := j) (a := ((2 * i : Nat) : Int) + 1) (o := o) (c := 2 * (n : Int) + j + 1) (bad := fun k => 2 * ((i : Int) + k) + 1) (by omega) (by omega) (by omega) (by omega) h0 h1 (by rw [ho]) (by rw [ho]) (by rw [ho]; simp) (by rw [hc]) (by rw [hc]) hno
      (fun h5 => by
        obtain ⟨e, s', q1, q2⟩ := deep2 hn j (i + 1) (f + 1) (o + 1) (by omega) (by omega) (by omega) (by omega)
        have e1 : ((2 * (i + 1) : Nat) : Int) = ((2 * i : Nat) : Int) + 1 + 1 := by omega
        rw [e1] at q1
        have e2 : (fun k : Int => 2 * (((i + 1 : Nat) : Int) + k) + 1) = fun k => 2 * ((i : Int) + (k + 1)) + 1 := by funext k; omega
        rw [e2] at q2
        exact ⟨e, s', q1, q2⟩)
    have hst : StopAt ((List.range (3 * n + 2)).map (tk2 102 40 41 n)) s' := h3.stop (tk2_stop (i := j + 1) (by omega) (by omega) (.inl rfl))
    have hgo : goS ⟨((2 * i : Nat) : Int), o, 0, 0⟩ = ⟨((2 * i : Nat) : Int) + 1, o, 0, 0⟩ := by simp only [goS, w64_1 (a := ((2 * i : Nat) : Int)) (by omega) (by omega)]
    have hib : isB ((List.range (3 * n + 2)).map (tk2 102 40 41 n)) ⟨((2 * i : Nat) : Int) + 1, o, 0, 0⟩ 4 [40] = true := by simp only [isB, ho]; rfl
    have hff : firstF ((List.range (3 * n + 2)).map (tk2 102 40 41 n)) (f + 1 + 1 + 1 + 1) ⟨((2 * i : Nat) : Int), o, 0, 0⟩ = some (.mk { kind := 7, name := [102], pos := ((2 * i : Nat) : Int) } e, s') := by
      rw [firstF]
      simp only [ht, ne_eq, not_true, if_false, if_true, reduceCtorEq, show ¬ ((1 : Int) = 2) by decide]
      rw [nameF, hgo, hib, cond_true, h2, ht]
      rfl
    refine ⟨_, s', rowF_wrap (unary_chain (by rw [ht]; intro h; cases h) hff (hst.chain _ _)) hst (by omega), ?_⟩
    have e2 : 2 * (n : Int) + j + 1 + 1 = 2 * (n : Int) + ((j + 1 : Nat) : Int) + 1 := by omega
    rwa [e2] at h3
theorem deep3 {n : Nat} (hn : n ≤ 60) : ∀ (j i f : Nat) (o : Int), i + j = n → 0 ≤ o → o ≤ 100 → 20 * j + 20 ≤ f →
    ∃ e s', rowF ((List.range (3 * n + 2)).map (tk2 120 91 93 n)) f 0 ⟨((2 * i : Nat) : Int), o, 0, 0⟩ = some (e, s') ∧ DeepRes j o (2 * n + j + 1) (fun k => 2 * (i + k) + 1) s'
  | 0, i, f, o, hij, h0, h1, hf => by
    obtain rfl : i = n := by omega
    have := deep_one (o := o) (a := ((2 * i : Nat) : Int)) (by omega) (by omega) (tk2_one (c := 120) (x := 91) (y := 93) rfl) (tk2_stop (i := 0) (by omega) (by omega) (.inr rfl)) (show 10 ≤ f by omega) (fun k => 2 * ((i : Int) + k) + 1)
    have e1 : ((2 * i : Nat) : Int) + 1 = 2 * (i : Int) + ((0 : Nat) : Int) + 1 := by omega
    rw [e1] at this
    exact this
  | j + 1, i, f, o, hij, h0, h1, hf => by
    obtain ⟨f, rfl⟩ : ∃ m, f = m + 3 + 3 + 6 := ⟨f - 12, by omega⟩
    have ht := tk2_name (c := 120) (x := 91) (y := 93) (n := n) (i := i) rfl (by omega)
    have ho := tk2_open (c := 120) (x := 91) (y := 93) (n := n) (i := i) (a := ((2 * i : Nat) : Int) + 1) (by omega) (by omega)
    have hc := tk2_close (c := 120) (x := 91) (y := 93) (n := n) (i := j) (a := 2 * (n : Int) + j + 1) (by omega) (by omega)
    obtain ⟨e, s', h2, h3⟩ := single_res (m := f + 1 + 1) (j := j) (a := ((2 * i : Nat) : Int) + 1) (o := o) (c := 2 * (n : Int) + j + 1) (bad := fun k => 2 * ((i : Int) + k) + 1) (x := [91]) (y := [93]) (by omega) (by omega) (by omega) (by omega) h0 h1 (by rw [ho]) (by rw [ho]) (by rw [ho]; simp) (by rw [hc]) (by rw [hc])
      (fun h5 => by
        obtain ⟨e, s', q1, q2⟩ := deep3 hn j (i + 1) (f + 1 + 1) (o + 1) (by omega) (by omega) (by omega) (by omega)
        have e1 : ((2 * (i + 1) : Nat) : Int) = ((2 * i : Nat) : Int) + 1 + 1 := by omega
        rw [e1] at q1
        have e2 : (fun k : Int => 2 * (((i + 1 : Nat) : Int) + k) + 1) = fun k => 2 * ((i : Int) + (k + 1)) + 1 := by funext k; omega
        rw [e2] at q2
        exact ⟨e, s', q1, q2⟩)
    have hst : StopAt ((List.range (3 * n + 2)).map (tk2 120 91 93 n)) s' := h3.stop (tk2_stop (i := j + 1) (by omega) (by omega) (.inr rfl))
    have hgo : goS ⟨((2 * i : Nat) : Int), o, 0, 0⟩ = ⟨((2 * i : Nat) : Int) + 1, o, 0, 0⟩ := by simp only [goS, w64_1 (a := ((2 * i : Nat) : Int)) (by omega) (by omega)]
    have hib : isB ((List.range (3 * n + 2)).map (tk2 120 91 93 n)) ⟨((2 * i : Nat) : Int) + 1, o, 0, 0⟩ 4 [40] = false := by simp only [isB, ho]; rfl
    have hff : firstF ((List.range (3 * n + 2)).map (tk2 120 91 93 n)) (f + 1 + 1 + 1 + 1) ⟨((2 * i : Nat) : Int), o, 0, 0⟩ = some (.mk { kind := 4, name := [120], pos := ((2 * i : Nat) : Int) } [], ⟨((2 * i : Nat) : Int) + 1, o, 0, 0⟩) := by
      rw [firstF]
      simp only [ht, ne_eq, not_true, if_false, if_true, reduceCtorEq, show ¬ ((1 : Int) = 2) by decide]
      rw [nameF, hgo, hib, cond_false, ht]
    have hch : chainL ((List.range (3 * n + 2)).map (tk2 120 91 93 n)) (f + 1 + 1 + 1 + 1) (.mk { kind := 4, name := [120], pos := ((2 * i : Nat) : Int) } []) ⟨((2 * i : Nat) : Int) + 1, o, 0, 0⟩ = some (.mk { kind := 6, pos := ((2 * i + 1 : Nat) : Int) } [.mk { kind := 4, name := [120], pos := ((2 * i : Nat) : Int) } [], e], s') := by
      rw [chainL]
      simp only [ho]
      have b1 : ((0 : Int) == 0 && (4 : Int) == 4) = true := rfl
      have b2 : (([91] : Bs) == [46]) = false := rfl
      have b3 : (([91] : Bs) == [91]) = true := rfl
      simp only [b1, b2, b3, cond_true, cond_false, h2, Option.bind_some]
      exact hst.chain _ _
    refine ⟨_, s', rowF_wrap (unary_chain (by rw [ht]; intro h; cases h) hff hch) hst (by omega), ?_⟩
    have e2 : 2 * (n : Int) + j + 1 + 1 = 2 * (n : Int) + ((j + 1 : Nat) : Int) + 1 := by omega
    rwa [e2] at h3
end Go.Proofs.Ytnjoomfeddamcaa

namespace Go.Proofs.Ytnjoomfeddamcaa
open Go.Ev
def endB : Bs := [10, 41]
def tailX (s : Bs) : Bs := if s = [] then [41] else s ++ endB
theorem blankN_leP : ∀ (s : Bs) (b : Bool), blankN b s ≤ s.length
  | [], b => by cases b <;> simp [blankN]
  | c :: r, true => by
    simp only [blankN, List.length_cons]
    cases c.toNat == 10
    · simp only [cond_false]; have := blankN_leP r true; omega
    · simp only [cond_true]; have := blankN_leP r false; omega
  | c :: r, false => by
    simp only [blankN, List.length_cons]
    have h1 := blankN_leP r true
    have h2 := blankN_leP r false
    cases isBlank c <;> cases (c == 47 && r.head? == some 47) <;> simp only [cond_false, cond_true] <;> omega
theorem blankN_app : ∀ (s : Bs) (b : Bool), blankN b (s ++ endB) = if blankN b s = s.length then s.length + 1 else blankN b s
  | [], true => by decide
  | [], false => by decide
  | c :: r, true => by
    have h1 := blankN_app r true
    have h2 := blankN_app r false
    simp only [List.cons_append, blankN, List.length_cons]
    rcases Bool.eq_false_or_eq_true (c.toNat == 10) with hc | hc
    · simp only [hc, cond_true, h2]; split <;> split <;> omega
    · simp only [hc, cond_false, h1]; split <;> split <;> omega
  | c :: r, false => by
    have h1 := blankN_app r true
    have h2 := blankN_app r false
    have hd : (c == 47 && (r ++ endB).head? == some 47) = (c == 47 && r.head? == some 47) := by
      cases r with
      | nil => cases c == 47 <;> decide
      | cons x r => rfl
    simp only [List.cons_append, blankN, List.length_cons, hd]
    rcases Bool.eq_false_or_eq_true (isBlank c) with hc | hc
    · simp only [hc, cond_true, h2]; split <;> split <;> omega
    · rcases Bool.eq_false_or_eq_true (c == 47 && r.head? == some 47) with hk | hk
      · simp only [hc, hk, cond_false, cond_true, h1]; split <;> split <;> omega
      · simp only [hc, hk, cond_false]; split <;> omega
theorem drop_blank (s : Bs) : (s ++ endB).drop (blankN false (s ++ endB)) = tailX (s.drop (blankN false s)) := by
  have hle := blankN_leP s false
  rw [blankN_app]
  unfold tailX
  by_cases h : blankN false s = s.length
  · rw [if_pos h, if_pos (by rw [h]; simp), show s.length + 1 = s.length + 1 from rfl, List.drop_append]
    simp [endB]
  · rw [if_neg h, if_neg (by simp; omega), List.drop_append]
    have : blankN false s - s.length = 0 := by omega
    rw [this]; simp
theorem runN_leP (d : Bool) : ∀ s : Bs, runN d s ≤ s.length
  | [] => by simp [runN]
  | c :: r => by
    have := runN_leP d r
    simp only [runN, List.length_cons]
    cases (digB c || (!d && letB c)) <;> simp only [cond_false, cond_true] <;> omega
theorem runN_app (d : Bool) : ∀ s : Bs, runN d (s ++ endB) = runN d s
  | [] => by cases d <;> decide
  | c :: r => by simp only [List.cons_append, runN, runN_app d r]
theorem take_app {n : Nat} {s : Bs} (h : n ≤ s.length) : (s ++ endB).take n = s.take n := by
  rw [List.take_append]; have : n - s.length = 0 := by omega
  rw [this]; simp
theorem signN_app : ∀ {s : Bs}, s ≠ [] → signN (s ++ endB) = signN s
  | [], h => absurd rfl h
  | [c], _ => by
    have : memB [c, 10] twosL = false := by simp [memB, twosL]
    simp [signN, endB, this]
  | c :: d :: r, _ => by simp [signN, endB]
theorem signN_len (s : Bs) : (signN s).length ≤ s.length := by
  unfold signN
  cases (decide (2 ≤ s.length) && memB (s.take 2) twosL)
  · cases s with
    | nil => simp
    | cons c r => simp only [cond_false]; cases memC c onesL <;> simp
  · simp; omega
theorem oneN_app {s : Bs} (hs : s ≠ []) {q : Int × Bs × Int × Nat} (h : oneN s = some q) : oneN (s ++ endB) = some q ∧ q.2.2.2 ≤ s.length := by
  cases s with
  | nil => exact absurd rfl hs
  | cons c r =>
    have l0 := runN_leP false (c :: r)
    have l1 := runN_leP true (c :: r)
    have e0 := runN_app false (c :: r)
    have e1 := runN_app true (c :: r)
    have t0 := take_app l0
    have t1 := take_app l1
    have g := signN_app hs
    have gl := signN_len (c :: r)
    have x1 : (decide (runN true (c :: r) < (c :: r ++ endB).length) && letB (((c :: r ++ endB)[runN true (c :: r)]?).getD 0)) = (decide (runN true (c :: r) < (c :: r).length) && letB (((c :: r)[runN true (c :: r)]?).getD 0)) := by
      by_cases hlt : runN true (c :: r) < (c :: r).length
      · rw [List.getElem?_append_left hlt]
        have : runN true (c :: r) < (c :: r ++ endB).length := by rw [List.length_append]; omega
        simp only [hlt, this]
      · have he : runN true (c :: r) = (c :: r).length := by omega
        rw [List.getElem?_append_right (by omega), he]
        have h10 : letB (endB[(c :: r).length - (c :: r).length]?.getD 0) = false := by rw [Nat.sub_self]; decide
        rw [h10, Bool.and_false]
        simp
    rw [List.cons_append] at *
    simp only [oneN] at h ⊢
    rw [← List.cons_append] at *
    simp only [e0, e1, t0, t1, g, x1]
    refine ⟨h, ?_⟩
    revert h
    cases letB c
    · cases digB c
      · simp only [cond_false]
        cases signN (c :: r) == []
        · simp only [cond_false]; intro h; cases h; exact gl
        · intro h; cases h
      · simp only [cond_false, cond_true]
        cases wholeN 0 ((c :: r).take (runN true (c :: r))) with
        | none => intro h; cases h
        | some v =>
          simp only
          generalize ((decide (1 < runN true (c :: r)) && c.toNat == 48) || (decide (runN true (c :: r) < (c :: r).length) && letB (((c :: r)[runN true (c :: r)]?).getD 0))) = z
          cases z
          · intro h; cases h; exact l1
          · intro h; cases h
    · simp only [cond_true]
      cases wordB ((c :: r).take (runN false (c :: r))) <;> cases nameB ((c :: r).take (runN false (c :: r))) <;> intro h <;> cases h <;> exact l0
def Tok.key (t : Tok) : Int × Bs × Int := (t.kind, t.text, t.n)
theorem lexL_app : ∀ (n : Nat) (s : Bs) (p : Nat) (l : List Tok), lexL n s p = .inr l → ∀ (n' q : Nat), n + 1 ≤ n' →
    (∃ b e, l = b ++ [e] ∧ e.key = (0, [], 0) ∧ ∃ l', lexL n' (tailX s) q = .inr l' ∧ l'.map Tok.key = b.map Tok.key ++ [(4, [41], 0), (0, [], 0)])
  | 0, s, p, l, h, _, _, _ => by simp [lexL] at h
  | n + 1, [], p, l, h, n', q, hn => by
    simp only [lexL, Sum.inr.injEq] at h
    subst h
    obtain ⟨m, rfl⟩ : ∃ m, n' = m + 2 := ⟨n' - 2, by omega⟩
    refine ⟨[], _, rfl, rfl, [⟨4, [41], 0, q⟩, ⟨0, [], 0, (q + 1 : Nat)⟩], ?_, rfl⟩
    have e : oneN [41] = some (4, [41], 0, 1) := by decide
    simp only [tailX, if_true, lexL, e]
    rfl
  | n + 1, c :: r, p, l, h, n', q, hn => by
    obtain ⟨m, rfl⟩ : ∃ m, n' = m + 1 := ⟨n' - 1, by omega⟩
    rw [lexL] at h
    cases ho : oneN (c :: r) with
    | none => rw [ho] at h; cases h
    | some x =>
      obtain ⟨k, t, v, j⟩ := x
      rw [ho] at h
      simp only at h
      cases hl : lexL n (((c :: r).drop j).drop (blankN false ((c :: r).drop j))) (p + j + blankN false ((c :: r).drop j)) with
      | inl e => rw [hl] at h; cases h
      | inr l2 =>
        rw [hl] at h
        simp only [Sum.inr.injEq] at h
        subst h
        obtain ⟨e1, e2⟩ := oneN_app (by simp) ho
        have hd : (c :: r ++ endB).drop j = (c :: r).drop j ++ endB := by
          rw [List.drop_append]
          have : j - (c :: r).length = 0 := by simp only at e2; omega
          rw [this]; rfl
        obtain ⟨b, e, f1, f2, l', f3, f4⟩ := lexL_app n _ _ l2 hl m (q + j + blankN false ((c :: r).drop j ++ endB)) (by omega)
        refine ⟨⟨k, t, v, p⟩ :: b, e, by rw [f1]; rfl, f2, ⟨k, t, v, q⟩ :: l', ?_, by simp [f4, Tok.key]⟩
        have ht : tailX (c :: r) = c :: (r ++ endB) := by simp [tailX]
        rw [ht, lexL]
        rw [List.cons_append] at e1 hd
        rw [e1]
        simp only [hd, drop_blank, f3]
def wrapB (s : Bs) : Bs := 40 :: (s ++ endB)
theorem lexS_wrap {s : Bs} {l : List Tok} (h : lexS s = .inr l) : ∃ b e, l = b ++ [e] ∧ e.key = (0, [], 0) ∧ ∃ l', lexS (wrapB s) = .inr l' ∧ l'.map Tok.key = (4, [40], 0) :: (b.map Tok.key ++ [(4, [41], 0), (0, [], 0)]) := by
  unfold lexS at h
  have e0 : blankN false (wrapB s) = 0 := by
    simp only [wrapB, blankN]
    have h1 : isBlank 40 = false := by decide
    have h2 : ((40 : UInt8) == 47) = false := by decide
    rw [h1, h2]; rfl
  have e1 : oneN (wrapB s) = some (4, [40], 0, 1) := by
    have h1 : letB 40 = false := by decide
    have h2 : digB 40 = false := by decide
    have h3 : signN (wrapB s) = [40] := by
      have : ∃ x r, s ++ endB = x :: r := by cases s <;> exact ⟨_, _, rfl⟩
      obtain ⟨x, r, hx⟩ := this
      have h4 : memB [40, x] twosL = false := by simp [memB, twosL]
      simp only [signN, wrapB, hx, List.take_succ_cons, List.take_zero, h4, Bool.and_false, cond_false]
      decide
    simp only [wrapB] at h3 ⊢
    simp only [oneN, h1, h2, h3, cond_false]
    rfl
  obtain ⟨b, e, f1, f2, l', f3, f4⟩ := lexL_app _ _ _ l h ((wrapB s).length) (1 + blankN false (s ++ endB)) (by simp [wrapB, endB])
  refine ⟨b, e, f1, f2, ⟨4, [40], 0, (0 : Nat)⟩ :: l', ?_, by simp [f4, Tok.key]⟩
  unfold lexS
  rw [e0, List.drop_zero]
  have hw : wrapB s = 40 :: (s ++ endB) := rfl
  rw [hw] at e1 f3 ⊢
  rw [lexL, e1]
  simp only [List.drop_succ_cons, List.drop_zero, drop_blank, Nat.zero_add, f3]
def wrapsB : Nat → Bs → Bs
  | 0, s => s
  | n + 1, s => wrapB (wrapsB n s)
theorem wrapsB_len (s : Bs) : ∀ n, (wrapsB n s).length = s.length + 3 * n
  | 0 => rfl
  | n + 1 => by simp only [wrapsB, wrapB, endB, List.length_cons, List.length_append, wrapsB_len s n, List.length_nil]; omega
theorem lexS_wraps {s : Bs} {l : List Tok} (h : lexS s = .inr l) : ∃ b e, l = b ++ [e] ∧ e.key = (0, [], 0) ∧
    ∀ n, ∃ l', lexS (wrapsB n s) = .inr l' ∧ l'.map Tok.key = List.replicate n (4, [40], 0) ++ (b.map Tok.key ++ (List.replicate n (4, [41], 0) ++ [(0, [], 0)])) := by
  obtain ⟨b, e, h1, h2, -⟩ := lexS_wrap h
  refine ⟨b, e, h1, h2, fun n => ?_⟩
  induction n with
  | zero => exact ⟨l, h, by simp [h1, h2]⟩
  | succ n ih =>
    obtain ⟨l', i1, i2⟩ := ih
    obtain ⟨b', e', j1, j2, l2, j3, j4⟩ := lexS_wrap i1
    refine ⟨l2, j3, ?_⟩
    rw [j1, List.map_append, List.map_cons, List.map_nil, j2, ← List.append_assoc, ← List.append_assoc] at i2
    have i3 := (List.append_inj' i2 rfl).1
    rw [j4, i3, List.replicate_succ, List.replicate_succ']
    simp
end Go.Proofs.Ytnjoomfeddamcaa

namespace Go.Proofs.Ytnjoomfeddamcaa
open Go.Ev
structure Tri (T U : List Tok) (k L : Nat) : Prop where
  same : ∀ a : Int, 0 ≤ a → a < L → (tokAt U (a + k)).key = (tokAt T a).key
  endT : (tokAt T L).kind = 0
  endU : (tokAt U (L + k : Int)).kind = 0 ∨ ((tokAt U (L + k : Int)).kind = 4 ∧ (tokAt U (L + k : Int)).text = [41])
  small : L + k ≤ 100000
section
variable {T U : List Tok} {k L : Nat} {d : Int} (c : Tri T U k L)
include c
theorem Tri.kind {a : Int} (h0 : 0 ≤ a) (h1 : a < L) : (tokAt U (a + k)).kind = (tokAt T a).kind := congrArg (·.1) (c.same a h0 h1)
theorem Tri.text {a : Int} (h0 : 0 ≤ a) (h1 : a < L) : (tokAt U (a + k)).text = (tokAt T a).text := congrArg (·.2.1) (c.same a h0 h1)
theorem Tri.num {a : Int} (h0 : 0 ≤ a) (h1 : a < L) : (tokAt U (a + k)).n = (tokAt T a).n := congrArg (·.2.2) (c.same a h0 h1)
theorem Tri.lt {a : Int} (h1 : a ≤ L) (h : (tokAt T a).kind ≠ 0) : a < L := by
  rcases Int.lt_or_eq_of_le h1 with h2 | h2
  · exact h2
  · rw [h2] at h; exact absurd c.endT h
theorem Tri.is {a o o' q : Int} {x : Bs} (h0 : 0 ≤ a) (h1 : a ≤ L) (hq : q ≠ 0) (hx : q = 4 → x ≠ [41]) : isB U ⟨a + k, o', 0, 0⟩ q x = isB T ⟨a, o, 0, 0⟩ q x := by
  simp only [isB]
  rcases Int.lt_or_eq_of_le h1 with h2 | h2
  · rw [c.kind h0 h2, c.text h0 h2]
  · subst h2
    have e1 : ((tokAt T L).kind == q) = false := by rw [c.endT]; simpa using Ne.symm hq
    rw [e1]
    rcases c.endU with e2 | ⟨e2, e3⟩
    · have : ((tokAt U (L + k : Int)).kind == q) = false := by rw [e2]; simpa using Ne.symm hq
      rw [this]; rfl
    · by_cases h4 : q = 4
      · have : ((tokAt U (L + k : Int)).text == x) = false := by rw [e3]; simpa using Ne.symm (hx h4)
        rw [this]; simp
      · have : ((tokAt U (L + k : Int)).kind == q) = false := by rw [e2]; simpa using Ne.symm h4
        rw [this]; rfl
theorem Tri.is_lt {a o q : Int} {x : Bs} (h1 : a ≤ L) (hq : q ≠ 0) (h : isB T ⟨a, o, 0, 0⟩ q x = true) : a < L ∧ (tokAt T a).kind = q ∧ (tokAt T a).text = x := by
  obtain ⟨_, h2, h3⟩ := isB_kind h
  exact ⟨c.lt h1 (by rw [h2]; exact hq), h2, h3⟩
theorem Tri.go {a o : Int} (h0 : 0 ≤ a) (h1 : a < L) : goS ⟨a, o, 0, 0⟩ = ⟨a + 1, o, 0, 0⟩ ∧ goS ⟨a + k, o, 0, 0⟩ = ⟨a + 1 + k, o, 0, 0⟩ := by
  have := c.small
  simp only [goS, w64_1 h0 (by omega), w64_1 (a := a + k) (by omega) (by omega)]
  exact ⟨trivial, by congr 1; omega⟩
theorem Tri.opens {a o : Int} {x : Bs} (h0 : 0 ≤ a) (h1 : a ≤ L) (ho : 0 ≤ o) (hd : 0 ≤ d) (h : (opensS T x ⟨a, o, 0, 0⟩).2.fe = 0) :
    a < L ∧ o < 50 ∧ opensS T x ⟨a, o, 0, 0⟩ = (true, ⟨a + 1, o + 1, 0, 0⟩) ∧
    ((opensS T x ⟨a, o + d, 0, 0⟩ = (true, ⟨a + 1, o + 1 + d, 0, 0⟩) ∧ opensS U x ⟨a + k, o + d, 0, 0⟩ = (true, ⟨a + 1 + k, o + 1 + d, 0, 0⟩)) ∨
     ∃ s2 s3, opensS T x ⟨a, o + d, 0, 0⟩ = (false, s2) ∧ opensS U x ⟨a + k, o + d, 0, 0⟩ = (false, s3) ∧ s2.fe = 4 ∧ s3.fe = 4) := by
  have hs := c.small
  have hi : isB T ⟨a, o, 0, 0⟩ 4 x = true := by
    cases hb : isB T ⟨a, o, 0, 0⟩ 4 x with
    | true => rfl
    | false => simp [opensS, hb, failS] at h
  obtain ⟨hl, hk, ht⟩ := c.is_lt h1 (by decide) hi
  have hk3 : (tokAt U (a + k)).kind = 4 := by rw [c.kind h0 hl, hk]
  have ht3 : (tokAt U (a + k)).text = x := by rw [c.text h0 hl, ht]
  have h5 : o < 50 := by
    rcases Int.lt_or_le o 50 with h5 | h5
    · exact h5
    · obtain ⟨s', e1, e2, _⟩ := opens_no h5 hk ht
      rw [e1, e2] at h; cases h
  refine ⟨hl, h5, opens_go h0 (by omega) ho h5 hk ht, ?_⟩
  rcases Int.lt_or_le (o + d) 50 with h6 | h6
  · refine .inl ⟨?_, ?_⟩
    · rw [opens_go h0 (by omega) (by omega) h6 hk ht]; congr 2; omega
    · rw [opens_go (a := a + k) (by omega) (by omega) (by omega) h6 hk3 ht3]; congr 2 <;> omega
  · obtain ⟨s2, e1, e2, _⟩ := opens_no h6 hk ht
    obtain ⟨s3, f1, f2, _⟩ := opens_no h6 hk3 ht3
    exact .inr ⟨s2, s3, e1, f1, e2, f2⟩
theorem Tri.closes {a o : Int} {x : Bs} (h0 : 0 ≤ a) (h1 : a ≤ L) (ho : 1 ≤ o) (ho' : o ≤ 1000) (hd : 0 ≤ d) (hd' : d ≤ 1000) (h : (closesS T x ⟨a, o, 0, 0⟩).2.fe = 0) :
    a < L ∧ (closesS T x ⟨a, o, 0, 0⟩).2 = ⟨a + 1, o - 1, 0, 0⟩ ∧ (closesS T x ⟨a, o + d, 0, 0⟩).2 = ⟨a + 1, o - 1 + d, 0, 0⟩ ∧ (closesS U x ⟨a + k, o + d, 0, 0⟩).2 = ⟨a + 1 + k, o - 1 + d, 0, 0⟩ := by
  have hs := c.small
  have hi : isB T (outS ⟨a, o, 0, 0⟩) 4 x = true := by
    cases hb : isB T (outS ⟨a, o, 0, 0⟩) 4 x with
    | true => rfl
    | false =>
      have hb' : isB T ⟨a, w64 (o - 1), 0, 0⟩ 4 x = false := hb
      simp only [closesS, wantsS, outS, hb', cond_false, failS, if_true] at h
      cases h
  obtain ⟨hl, hk, ht⟩ := c.is_lt (o := w64 (o - 1)) h1 (by decide) hi
  have hk3 : (tokAt U (a + k)).kind = 4 := by rw [c.kind h0 hl, hk]
  have ht3 : (tokAt U (a + k)).text = x := by rw [c.text h0 hl, ht]
  refine ⟨hl, closes_good h0 (by omega) ho (by omega) hk ht, ?_, ?_⟩
  · rw [closes_good h0 (by omega) (by omega) (by omega) hk ht]; congr 1; omega
  · rw [closes_good (a := a + k) (by omega) (by omega) (by omega) (by omega) hk3 ht3]; congr 1 <;> omega
theorem Tri.wants {a o : Int} {x : Bs} (h0 : 0 ≤ a) (h1 : a ≤ L) (h : (wantsS T x ⟨a, o, 0, 0⟩).2.fe = 0) :
    a < L ∧ (∀ o', (wantsS T x ⟨a, o', 0, 0⟩).2 = ⟨a + 1, o', 0, 0⟩) ∧ ∀ o', (wantsS U x ⟨a + k, o', 0, 0⟩).2 = ⟨a + 1 + k, o', 0, 0⟩ := by
  have hi : isB T ⟨a, o, 0, 0⟩ 4 x = true := by
    cases hb : isB T ⟨a, o, 0, 0⟩ 4 x with
    | true => rfl
    | false =>
      simp only [wantsS, hb, cond_false, failS, if_true] at h
      cases h
  obtain ⟨hl, hk, ht⟩ := c.is_lt h1 (by decide) hi
  have hk3 : (tokAt U (a + k)).kind = 4 := by rw [c.kind h0 hl, hk]
  have ht3 : (tokAt U (a + k)).text = x := by rw [c.text h0 hl, ht]
  refine ⟨hl, fun o' => ?_, fun o' => ?_⟩
  · have : isB T ⟨a, o', 0, 0⟩ 4 x = true := hi
    simp only [wantsS, this, cond_true]; exact (c.go h0 hl).1
  · have : isB U ⟨a + k, o', 0, 0⟩ 4 x = true := by simp [isB, hk3, ht3]
    simp only [wantsS, this, cond_true]; exact (c.go h0 hl).2
omit c in
theorem wantN_fe {x : Bs} : ∀ (n : Nat) {s : St}, (wantN T x n s).fe = 0 → s.fe = 0
  | 0, s, h => h
  | n + 1, s, h => by
    have h1 := wantN_fe n h
    by_cases hs : s.fe = 0
    · exact hs
    · simp only [wantsS, isB_failed hs, cond_false, failS_failed hs] at h1; exact h1
theorem Tri.wantN {x : Bs} : ∀ (n : Nat) {a o : Int}, 0 ≤ a → a ≤ L → (wantN T x n ⟨a, o, 0, 0⟩).fe = 0 →
    ∃ b : Int, 0 ≤ b ∧ b ≤ L ∧ (∀ o', wantN T x n ⟨a, o', 0, 0⟩ = ⟨b, o', 0, 0⟩) ∧ ∀ o', wantN U x n ⟨a + k, o', 0, 0⟩ = ⟨b + k, o', 0, 0⟩
  | 0, a, o, h0, h1, _ => ⟨a, h0, h1, fun _ => rfl, fun _ => rfl⟩
  | n + 1, a, o, h0, h1, h => by
    simp only [Ytnjoomfeddamcaa.wantN] at h ⊢
    obtain ⟨hl, e1, e2⟩ := c.wants h0 h1 (wantN_fe n h)
    rw [e1] at h
    obtain ⟨b, b0, b1, f1, f2⟩ := Tri.wantN n (by omega) (by omega) h
    exact ⟨b, b0, b1, fun o' => by rw [e1, f1], fun o' => by rw [e2, f2]⟩
theorem Tri.ofL : ∀ (n : Nat) (q : Int) {a o q' : Int} {s' : St}, 0 ≤ a → a ≤ L → ofL T n q ⟨a, o, 0, 0⟩ = .inl (q', s') →
    ∃ b : Int, 0 ≤ b ∧ b ≤ L ∧ (∀ o', ofL T n q ⟨a, o', 0, 0⟩ = .inl (q', ⟨b, o', 0, 0⟩)) ∧ ∀ o', ofL U n q ⟨a + k, o', 0, 0⟩ = .inl (q', ⟨b + k, o', 0, 0⟩)
  | 0, q, a, o, q', s', h0, h1, h => by
    simp only [Ytnjoomfeddamcaa.ofL] at h ⊢
    cases hb : isB T ⟨a, o, 0, 0⟩ 4 [91] with
    | true => rw [hb, cond_true] at h; cases h
    | false =>
      rw [hb, cond_false] at h
      have hq : q = q' := by cases h; rfl
      subst hq
      refine ⟨a, h0, h1, fun o' => ?_, fun o' => ?_⟩
      · have : isB T ⟨a, o', 0, 0⟩ 4 [91] = false := hb
        rw [this]; rfl
      · rw [c.is (o := o) h0 h1 (by decide) (by decide), hb]; rfl
  | n + 1, q, a, o, q', s', h0, h1, h => by
    simp only [Ytnjoomfeddamcaa.ofL] at h ⊢
    cases hb : isB T ⟨a, o, 0, 0⟩ 4 [91] with
    | true =>
      obtain ⟨hl, _, _⟩ := c.is_lt h1 (by decide) hb
      rw [hb, cond_true, (c.go h0 hl).1] at h
      obtain ⟨b, b0, b1, f1, f2⟩ := Tri.ofL n (q + 1) (by omega) (by omega) h
      refine ⟨b, b0, b1, fun o' => ?_, fun o' => ?_⟩
      · have : isB T ⟨a, o', 0, 0⟩ 4 [91] = true := hb
        rw [this, cond_true, (c.go h0 hl).1, f1]
      · rw [c.is (o := o) h0 h1 (by decide) (by decide), hb, cond_true, (c.go h0 hl).2, f2]
    | false =>
      rw [hb, cond_false] at h
      have hq : q = q' := by cases h; rfl
      subst hq
      refine ⟨a, h0, h1, fun o' => ?_, fun o' => ?_⟩
      · have : isB T ⟨a, o', 0, 0⟩ 4 [91] = false := hb
        rw [this]; rfl
      · rw [c.is (o := o) h0 h1 (by decide) (by decide), hb]; rfl
omit c in
theorem ofL_inr : ∀ (n : Nat) (q : Int) {a o : Int} {s' : St}, ofL T n q ⟨a, o, 0, 0⟩ = .inr s' → s'.fe = 4
  | 0, q, a, o, s', h => by
    simp only [Ytnjoomfeddamcaa.ofL] at h
    cases hb : isB T ⟨a, o, 0, 0⟩ 4 [91] with
    | true => rw [hb, cond_true] at h; cases h; simp [failS]
    | false => rw [hb, cond_false] at h; cases h
  | n + 1, q, a, o, s', h => by
    simp only [Ytnjoomfeddamcaa.ofL] at h
    cases hb : isB T ⟨a, o, 0, 0⟩ 4 [91] with
    | true => rw [hb, cond_true] at h; exact ofL_inr n (q + 1) h
    | false => rw [hb, cond_false] at h; cases h
theorem Tri.ofE {q a o : Int} (h0 : 0 ≤ a) (h1 : a ≤ L) (h : (ofE T q ⟨a, o, 0, 0⟩).2.fe = 0) :
    ∃ b : Int, 0 ≤ b ∧ b ≤ L ∧ (∀ o', ofE T q ⟨a, o', 0, 0⟩ = ((ofE T q ⟨a, o, 0, 0⟩).1, ⟨b, o', 0, 0⟩)) ∧ ∀ o', ofE U q ⟨a + k, o', 0, 0⟩ = ((ofE T q ⟨a, o, 0, 0⟩).1, ⟨b + k, o', 0, 0⟩) := by
  have ht : ∀ o', ((tokAt T a).kind != 1 && (!isB T ⟨a, o', 0, 0⟩ 3 [105, 110, 116] && !isB T ⟨a, o', 0, 0⟩ 3 [98, 111, 111, 108])) = false := by
    intro o'
    cases hb : ((tokAt T a).kind != 1 && (!isB T ⟨a, o', 0, 0⟩ 3 [105, 110, 116] && !isB T ⟨a, o', 0, 0⟩ 3 [98, 111, 111, 108])) with
    | false => rfl
    | true =>
      have hb' : ((tokAt T a).kind != 1 && (!isB T ⟨a, o, 0, 0⟩ 3 [105, 110, 116] && !isB T ⟨a, o, 0, 0⟩ 3 [98, 111, 111, 108])) = true := hb
      simp only [Ytnjoomfeddamcaa.ofE, hb', cond_true, failS, if_true] at h
      cases h
  have hl : a < L := by
    refine c.lt h1 fun hz => ?_
    have := ht o
    simp [isB, hz] at this
  have hu : ∀ o', ((tokAt U (a + k)).kind != 1 && (!isB U ⟨a + k, o', 0, 0⟩ 3 [105, 110, 116] && !isB U ⟨a + k, o', 0, 0⟩ 3 [98, 111, 111, 108])) = false := by
    intro o'
    rw [c.kind h0 hl, c.is (o := o) h0 h1 (by decide) (by decide), c.is (o := o) h0 h1 (by decide) (by decide)]
    exact ht o
  simp only [Ytnjoomfeddamcaa.ofE, ht, cond_false, (c.go h0 hl).1] at h ⊢
  obtain ⟨b, b0, b1, f1, f2⟩ := c.wantN q.toNat (by omega) (by omega) h
  refine ⟨b, b0, b1, fun o' => by rw [f1], fun o' => ?_⟩
  rw [hu o', cond_false, (c.go h0 hl).2, f2, c.text h0 hl]
theorem Tri.of {a o : Int} (h0 : 0 ≤ a) (h1 : a ≤ L) (h : (ofS T ⟨a, o, 0, 0⟩).2.fe = 0) :
    ∃ b : Int, 0 ≤ b ∧ b ≤ L ∧ (∀ o', ofS T ⟨a, o', 0, 0⟩ = ((ofS T ⟨a, o, 0, 0⟩).1, ⟨b, o', 0, 0⟩)) ∧ ∀ o', ofS U ⟨a + k, o', 0, 0⟩ = ((ofS T ⟨a, o, 0, 0⟩).1, ⟨b + k, o', 0, 0⟩) := by
  cases hl : Ytnjoomfeddamcaa.ofL T 3 0 ⟨a, o, 0, 0⟩ with
  | inr s' =>
    rw [ofS, hl] at h
    simp only [ofL_inr 3 0 hl] at h
    cases h
  | inl p =>
    obtain ⟨q, s'⟩ := p
    obtain ⟨b, b0, b1, f1, f2⟩ := c.ofL 3 0 h0 h1 hl
    simp only [ofS, f1] at h ⊢
    obtain ⟨b', b0', b1', g1, g2⟩ := c.ofE b0 b1 h
    exact ⟨b', b0', b1', fun o' => g1 o', fun o' => by rw [f2]; exact g2 o'⟩
end
end Go.Proofs.Ytnjoomfeddamcaa

namespace Go.Proofs.Ytnjoomfeddamcaa
open Go.Ev
def Out (k L : Nat) (d o : Int) {α : Type} (E : α → α → Prop) (x1 x2 x3 : α × St) : Prop :=
  ∃ a : Int, 0 ≤ a ∧ a ≤ L ∧ x1.2 = ⟨a, o, 0, 0⟩ ∧ ((x2.2 = ⟨a, o + d, 0, 0⟩ ∧ x3.2 = ⟨a + k, o + d, 0, 0⟩ ∧ E x3.1 x1.1) ∨ (x2.2.fe = 4 ∧ x3.2.fe = 4))
def Trio (k L : Nat) (d : Int) {α : Type} (E : α → α → Prop) (F1 F2 F3 : St → R α) : Prop :=
  ∀ (a o : Int) (x1 : α × St), 0 ≤ a → a ≤ L → 0 ≤ o → o ≤ 50 → F1 ⟨a, o, 0, 0⟩ = some x1 → x1.2.fe = 0 →
    ∃ x2 x3, F2 ⟨a, o + d, 0, 0⟩ = some x2 ∧ F3 ⟨a + k, o + d, 0, 0⟩ = some x3 ∧ Out k L d o E x1 x2 x3
def TrioC (k L : Nat) (d : Int) {α : Type} (E : α → α → Prop) (F1 F2 F3 : St → R α) : Prop :=
  ∀ (a o : Int) (x1 : α × St), 0 ≤ a → a ≤ L → 0 ≤ o → o < 50 → F1 ⟨a, o + 1, 0, 0⟩ = some x1 → x1.2.fe = 0 →
    ∃ x2 x3, F2 ⟨a, o + 1 + d, 0, 0⟩ = some x2 ∧ F3 ⟨a + k, o + 1 + d, 0, 0⟩ = some x3 ∧ Out k L d o E x1 x2 x3
def Pass {α : Type} (G : St → R α) : Prop := ∀ s, s.fe ≠ 0 → ∃ y, G s = some y ∧ y.2.fe = s.fe
theorem Trio.bind {k L : Nat} {d : Int} {α β : Type} {E : α → α → Prop} {E' : β → β → Prop} {F1 F2 F3 : St → R α} {G1 G2 G3 : α → St → R β} (hr : ∀ x, E x x) (h : Trio k L d E F1 F2 F3)
    (hg : ∀ x1 x2 x3, E x3 x1 → Trio k L d E' (G1 x1) (G2 x2) (G3 x3)) (p1 : ∀ x, Pass (G1 x)) (p2 : ∀ x, Pass (G2 x)) (p3 : ∀ x, Pass (G3 x)) :
    Trio k L d E' (fun s => (F1 s).bind fun p => G1 p.1 p.2) (fun s => (F2 s).bind fun p => G2 p.1 p.2) (fun s => (F3 s).bind fun p => G3 p.1 p.2) := by
  intro a o x1 h0 h1 o0 o1 hx hfe
  cases hF : F1 ⟨a, o, 0, 0⟩ with
  | none => simp only [hF] at hx; cases hx
  | some y =>
    simp only [hF, Option.bind_some] at hx
    have hy : y.2.fe = 0 := by
      by_cases hz : y.2.fe = 0
      · exact hz
      · obtain ⟨z, e1, e2⟩ := p1 y.1 y.2 hz
        rw [hx] at e1; cases e1; rw [← e2]; exact hfe
    obtain ⟨y2, y3, e2, e3, b, b0, b1, eq1, hh⟩ := h a o y h0 h1 o0 o1 hF hy
    simp only [e2, e3, Option.bind_some]
    rcases hh with ⟨q2, q3, q⟩ | ⟨q2, q3⟩
    · rw [eq1] at hx
      rw [q2, q3]
      exact hg y.1 y2.1 y3.1 q b o x1 b0 b1 o0 o1 hx hfe
    · obtain ⟨z2, f2, g2⟩ := p2 y2.1 y2.2 (by rw [q2]; decide)
      obtain ⟨z3, f3, g3⟩ := p3 y3.1 y3.2 (by rw [q3]; decide)
      obtain ⟨_, _, _, _, c, c0, c1, ceq, _⟩ := hg y.1 y2.1 y.1 (hr _) b o x1 b0 b1 o0 o1 (by rw [← eq1]; exact hx) hfe
      exact ⟨z2, z3, f2, f3, c, c0, c1, ceq, .inr ⟨by rw [g2, q2], by rw [g3, q3]⟩⟩
theorem Trio.mono {k L : Nat} {d : Int} {α : Type} {E : α → α → Prop} {F1 F2 F3 G1 G2 G3 : St → R α} (h : Trio k L d E F1 F2 F3) (e1 : ∀ s, G1 s = F1 s) (e2 : ∀ s, G2 s = F2 s) (e3 : ∀ s, G3 s = F3 s) : Trio k L d E G1 G2 G3 := by
  intro a o x1 h0 h1 o0 o1 hx hfe
  rw [e1] at hx; rw [e2, e3]
  exact h a o x1 h0 h1 o0 o1 hx hfe
theorem Trio.no {k L : Nat} {d : Int} {α : Type} {E : α → α → Prop} {F1 F2 F3 : St → R α} (h : ∀ s, F1 s = none) : Trio k L d E F1 F2 F3 := by
  intro a o x1 h0 h1 o0 o1 hx hfe
  rw [h] at hx; cases hx
section
variable {T U : List Tok} {k L : Nat} {d : Int} (c : Tri T U k L)
include c
theorem Tri.kindL {a o o' : Int} (h0 : 0 ≤ a) (h1 : a ≤ L) : ∀ l : List (Bs × Int), (∀ p ∈ l, p.1 ≠ [41]) → kindL U ⟨a + k, o', 0, 0⟩ l = kindL T ⟨a, o, 0, 0⟩ l
  | [], _ => rfl
  | (x, q) :: r, h => by
    simp only [Ytnjoomfeddamcaa.kindL]
    rw [c.is (o := o) h0 h1 (by decide) (fun _ => h (x, q) (by simp)), Tri.kindL h0 h1 r fun p hp => h p (by simp [hp])]
theorem Tri.kindS {a o o' : Int} (h0 : 0 ≤ a) (h1 : a ≤ L) (lev : Nat) : kindS U lev ⟨a + k, o', 0, 0⟩ = kindS T lev ⟨a, o, 0, 0⟩ := by
  refine c.kindL h0 h1 _ fun p hp => ?_
  have : ∀ l ∈ ([] :: lvls), ∀ p ∈ l, p.1 ≠ ([41] : Bs) := by decide
  rcases Nat.lt_or_ge lev 5 with h5 | h5
  · have : lev = 0 ∨ lev = 1 ∨ lev = 2 ∨ lev = 3 ∨ lev = 4 := by omega
    rcases this with rfl | rfl | rfl | rfl | rfl <;> exact (by decide : ∀ q ∈ (lvls[_]?.getD []), q.1 ≠ ([41] : Bs)) p hp
  · rw [List.getElem?_eq_none (by simpa [lvls] using h5)] at hp
    simp at hp
omit c in
theorem kindL_opn (a o o' : Int) : ∀ l : List (Bs × Int), Ytnjoomfeddamcaa.kindL T ⟨a, o, 0, 0⟩ l = Ytnjoomfeddamcaa.kindL T ⟨a, o', 0, 0⟩ l
  | [] => rfl
  | (x, q) :: r => by
    simp only [Ytnjoomfeddamcaa.kindL]
    rw [kindL_opn a o o' r]; rfl
omit c in
theorem kindL_lt {a o : Int} : ∀ l : List (Bs × Int), Ytnjoomfeddamcaa.kindL T ⟨a, o, 0, 0⟩ l ≠ 0 → (tokAt T a).kind = 4
  | [], h => absurd rfl h
  | (x, q) :: r, h => by
    simp only [Ytnjoomfeddamcaa.kindL] at h
    cases hb : isB T ⟨a, o, 0, 0⟩ 4 x with
    | true => exact (isB_kind hb).2.1
    | false => rw [hb, cond_false] at h; exact kindL_lt r h
abbrev EqE (e f : Ex) : Prop := sameE e f = true
abbrev EqL (e f : List Ex) : Prop := sameL e f = true
structure All (T U : List Tok) (k L : Nat) (d : Int) (n : Nat) : Prop where
  row : ∀ lev, Trio k L d EqE (rowF T n lev) (rowF T n lev) (rowF U n lev)
  rowL : ∀ lev e1 e2 e3, EqE e3 e1 → Trio k L d EqE (rowL T n lev e1) (rowL T n lev e2) (rowL U n lev e3)
  unary : Trio k L d EqE (unaryF T n) (unaryF T n) (unaryF U n)
  sign : ∀ x q, Trio k L d EqE (signF T n x q) (signF T n x q) (signF U n x q)
  chain : Trio k L d EqE (chainF T n) (chainF T n) (chainF U n)
  chainL : ∀ e1 e2 e3, EqE e3 e1 → Trio k L d EqE (chainL T n e1) (chainL T n e2) (chainL U n e3)
  single : ∀ x y, Trio k L d EqE (singleF T n x y) (singleF T n x y) (singleF U n x y)
  first : Trio k L d EqE (firstF T n) (firstF T n) (firstF U n)
  name : ∀ (a o : Int) (x1 : Ex × St), 0 ≤ a → a < L → (tokAt T a).kind = 1 → 0 ≤ o → o ≤ 50 → nameF T n ⟨a, o, 0, 0⟩ = some x1 → x1.2.fe = 0 →
    ∃ x2 x3, nameF T n ⟨a, o + d, 0, 0⟩ = some x2 ∧ nameF U n ⟨a + k, o + d, 0, 0⟩ = some x3 ∧ Out k L d o EqE x1 x2 x3
  fresh : ∀ (a o : Int) (x1 : Ex × St), 0 ≤ a → a < L → 0 ≤ o → o ≤ 50 → freshF T n ⟨a, o, 0, 0⟩ = some x1 → x1.2.fe = 0 →
    ∃ x2 x3, freshF T n ⟨a, o + d, 0, 0⟩ = some x2 ∧ freshF U n ⟨a + k, o + d, 0, 0⟩ = some x3 ∧ Out k L d o EqE x1 x2 x3
  list : Trio k L d EqL (listF T n) (listF T n) (listF U n)
  listL : ∀ l1 l2 l3, EqL l3 l1 → TrioC k L d EqL (listL T n l1) (listL T n l2) (listL U n l3)
omit c in
theorem All.zero : All T U k L d 0 where
  row _ := Trio.no fun _ => rfl
  rowL _ _ _ _ _ := Trio.no fun _ => rfl
  unary := Trio.no fun _ => rfl
  sign _ _ := Trio.no fun _ => rfl
  chain := Trio.no fun _ => rfl
  chainL _ _ _ _ := Trio.no fun _ => rfl
  single _ _ := Trio.no fun _ => rfl
  first := Trio.no fun _ => rfl
  name _ _ _ _ _ _ _ _ h := by cases h
  fresh _ _ _ _ _ _ _ h := by cases h
  list := Trio.no fun _ => rfl
  listL _ _ _ _ := fun _ _ _ _ _ _ _ h => by cases h
omit c in
theorem pass_rowL (T : List Tok) (n lev : Nat) (e : Ex) : Pass (rowL T (n + 1) lev e) := fun s h => ⟨_, rowL_failed h _ (by omega) lev e, rfl⟩
omit c in
theorem pass_chainL (T : List Tok) (n : Nat) (e : Ex) : Pass (chainL T (n + 1) e) := fun s h => by
  have hb : (s.fe == 0) = false := by simpa using h
  exact ⟨(e, s), by simp [chainL, hb], rfl⟩
omit c in
theorem pass_listL (T : List Tok) (n : Nat) (l : List Ex) : Pass (listL T (n + 1) l) := fun s h => by
  refine ⟨(l, (closesS T [41] s).2), by simp [listL, takesS, isB_failed h], (closes_bad h).1⟩
omit c in
theorem All.row_next {n : Nat} (ih : All T U k L d n) (lev : Nat) : Trio k L d EqE (rowF T (n + 1) lev) (rowF T (n + 1) lev) (rowF U (n + 1) lev) := by
  by_cases h5 : lev = 5
  · exact ih.unary.mono (fun s => by rw [rowF, if_pos h5]) (fun s => by rw [rowF, if_pos h5]) (fun s => by rw [rowF, if_pos h5])
  · cases n with
    | zero => exact Trio.no fun s => by rw [rowF, if_neg h5]; rfl
    | succ m =>
      exact (Trio.bind sameE_refl (ih.row (lev + 1)) (fun x1 x2 x3 h => ih.rowL lev x1 x2 x3 h) (fun _ => pass_rowL _ _ _ _) (fun _ => pass_rowL _ _ _ _) (fun _ => pass_rowL _ _ _ _)).mono
        (fun s => by rw [rowF, if_neg h5]) (fun s => by rw [rowF, if_neg h5]) (fun s => by rw [rowF, if_neg h5])
theorem All.rowL_next {n : Nat} (ih : All T U k L d n) (hn : n ≠ 0) (lev : Nat) {e1 e2 e3 : Ex} (he : EqE e3 e1) : Trio k L d EqE (Ytnjoomfeddamcaa.rowL T (n + 1) lev e1) (Ytnjoomfeddamcaa.rowL T (n + 1) lev e2) (Ytnjoomfeddamcaa.rowL U (n + 1) lev e3) := by
  intro a o x1 h0 h1 o0 o1 hx hfe
  have k2 : kindS T lev ⟨a, o + d, 0, 0⟩ = kindS T lev ⟨a, o, 0, 0⟩ := kindL_opn _ _ _ _
  have k3 : kindS U lev ⟨a + k, o + d, 0, 0⟩ = kindS T lev ⟨a, o, 0, 0⟩ := c.kindS h0 h1 lev
  simp only [Ytnjoomfeddamcaa.rowL, k2, k3] at hx ⊢
  by_cases hk : kindS T lev ⟨a, o, 0, 0⟩ = 0
  · rw [if_pos hk] at hx
    simp only [hk, if_true]
    cases hx
    exact ⟨_, _, rfl, rfl, a, h0, h1, rfl, .inl ⟨rfl, rfl, he⟩⟩
  · rw [if_neg hk] at hx
    simp only [hk, if_false]
    have hl : a < L := c.lt h1 (by rw [kindL_lt _ hk]; decide)
    rw [(c.go h0 hl).1] at hx ⊢
    rw [(c.go h0 hl).2]
    obtain ⟨m, rfl⟩ : ∃ m, n = m + 1 := ⟨n - 1, by omega⟩
    exact Trio.bind (G1 := fun x => Ytnjoomfeddamcaa.rowL T (m + 1) lev (.mk { kind := kindS T lev ⟨a, o, 0, 0⟩, pos := (tokAt T a).pos } [e1, x]))
      (G2 := fun x => Ytnjoomfeddamcaa.rowL T (m + 1) lev (.mk { kind := kindS T lev ⟨a, o, 0, 0⟩, pos := (tokAt T a).pos } [e2, x]))
      (G3 := fun x => Ytnjoomfeddamcaa.rowL U (m + 1) lev (.mk { kind := kindS T lev ⟨a, o, 0, 0⟩, pos := (tokAt U (a + k)).pos } [e3, x])) sameE_refl (ih.row (lev + 1)) (fun y1 y2 y3 h => ih.rowL lev _ _ _ (by
      have he' : sameE e3 e1 = true := he
      have h' : sameE y3 y1 = true := h
      simp [EqE, sameE, sameL, he', h'])) (fun _ => pass_rowL _ _ _ _) (fun _ => pass_rowL _ _ _ _) (fun _ => pass_rowL _ _ _ _) (a + 1) o x1 (by omega) (by omega) o0 o1 hx hfe
omit c in
theorem opens_fe (x : Bs) (a o : Int) : (opensS T x ⟨a, o, 0, 0⟩).1 = true ∧ (opensS T x ⟨a, o, 0, 0⟩).2.fe = 0 ∨ (opensS T x ⟨a, o, 0, 0⟩).1 = false ∧ (opensS T x ⟨a, o, 0, 0⟩).2.fe ≠ 0 := by
  unfold opensS
  cases isB T ⟨a, o, 0, 0⟩ 4 x with
  | false => exact .inr ⟨rfl, by simp [failS]⟩
  | true =>
    simp only [cond_true]
    split
    · exact .inr ⟨rfl, by simp [failS]⟩
    · exact .inl ⟨rfl, rfl⟩
theorem Tri.within {α β : Type} {E : α → α → Prop} {E' : β → β → Prop} {F1 F2 F3 : St → R α} {g1 g2 g3 : St → α → β} {v : St → β} {w1 w2 w3 : St → St} {x : Bs} (hd : 0 ≤ d) (h : Trio k L d E F1 F2 F3)
    (hg : ∀ s s' e e', E e' e → E' (g3 s' e') (g1 s e)) (hw : ∀ (a o : Int), 0 ≤ a → a ≤ L → 1 ≤ o → o ≤ 50 → (w1 ⟨a, o, 0, 0⟩).fe = 0 → ∃ b : Int, 0 ≤ b ∧ b ≤ L ∧ w1 ⟨a, o, 0, 0⟩ = ⟨b, o - 1, 0, 0⟩ ∧ w2 ⟨a, o + d, 0, 0⟩ = ⟨b, o - 1 + d, 0, 0⟩ ∧ w3 ⟨a + k, o + d, 0, 0⟩ = ⟨b + k, o - 1 + d, 0, 0⟩)
    (p1 : ∀ s, s.fe ≠ 0 → (w1 s).fe = s.fe) (p2 : ∀ s, s.fe ≠ 0 → (w2 s).fe = s.fe) (p3 : ∀ s, s.fe ≠ 0 → (w3 s).fe = s.fe) :
    Trio k L d E' (fun s => bif (opensS T x s).1 then (F1 (opensS T x s).2).bind fun p => some (g1 s p.1, w1 p.2) else some (v (opensS T x s).2, (opensS T x s).2))
      (fun s => bif (opensS T x s).1 then (F2 (opensS T x s).2).bind fun p => some (g2 s p.1, w2 p.2) else some (v (opensS T x s).2, (opensS T x s).2))
      (fun s => bif (opensS U x s).1 then (F3 (opensS U x s).2).bind fun p => some (g3 s p.1, w3 p.2) else some (v (opensS U x s).2, (opensS U x s).2)) := by
  intro a o x1 h0 h1 o0 o1 hx hfe
  rcases opens_fe (T := T) x a o with ⟨t1, t2⟩ | ⟨t1, t2⟩
  · obtain ⟨hl, h5, e1, hh⟩ := c.opens (d := d) h0 h1 o0 hd t2
    simp only [e1, cond_true] at hx
    cases hF : F1 ⟨a + 1, o + 1, 0, 0⟩ with
    | none => rw [hF] at hx; cases hx
    | some y =>
      rw [hF] at hx
      simp only [Option.bind_some, Option.some.injEq] at hx
      subst hx
      have hy : y.2.fe = 0 := by
        by_cases hz : y.2.fe = 0
        · exact hz
        · have := p1 _ hz; simp only at hfe; rw [← this]; exact hfe
      obtain ⟨y2, y3, f2, f3, b, b0, b1, eq1, hh2⟩ := h (a + 1) (o + 1) y (by omega) (by omega) (by omega) (by omega) hF hy
      simp only [eq1] at hfe
      obtain ⟨b', c0, c1, g1', g2', g3'⟩ := hw b (o + 1) b0 b1 (by omega) (by omega) hfe
      have ho : o + 1 - 1 = o := by omega
      rw [ho] at g1' g2' g3'
      rcases hh with ⟨q2, q3⟩ | ⟨s2, s3, q2, q3, r2, r3⟩
      · simp only [q2, q3, cond_true]
        rw [f2, f3]
        simp only [Option.bind_some]
        refine ⟨_, _, rfl, rfl, b', c0, c1, by simp only [eq1, g1'], ?_⟩
        rcases hh2 with ⟨u2, u3, u⟩ | ⟨u2, u3⟩
        · exact .inl ⟨by simp only [u2, g2'], by simp only [u3, g3'], hg _ _ _ _ u⟩
        · exact .inr ⟨by simp only; rw [p2 _ (by rw [u2]; decide), u2], by simp only; rw [p3 _ (by rw [u3]; decide), u3]⟩
      · simp only [q2, q3, cond_false]
        exact ⟨_, _, rfl, rfl, b', c0, c1, by simp only [eq1, g1'], .inr ⟨r2, r3⟩⟩
  · simp only [t1, cond_false, Option.some.injEq] at hx
    subst hx
    exact absurd hfe t2
theorem All.single_next {n : Nat} (ih : All T U k L d n) (hd : 0 ≤ d) (hd' : d ≤ 1000) (x y : Bs) : Trio k L d EqE (singleF T (n + 1) x y) (singleF T (n + 1) x y) (singleF U (n + 1) x y) :=
  (c.within (x := x) (g1 := fun _ e => e) (g2 := fun _ e => e) (g3 := fun _ e => e) (v := fun _ => Ex.zero) (w1 := fun s => (closesS T y s).2) (w2 := fun s => (closesS T y s).2) (w3 := fun s => (closesS U y s).2) hd (ih.row 0) (fun _ _ _ _ h => h)
    (fun a o h0 h1 h2 h3 hf => by
      obtain ⟨hl, e1, e2, e3⟩ := c.closes (d := d) h0 h1 h2 (by omega) hd hd' hf
      exact ⟨a + 1, by omega, by omega, e1, e2, e3⟩) (fun s h => (closes_bad h).1) (fun s h => (closes_bad h).1) (fun s h => (closes_bad h).1)).mono
    (fun s => by rw [singleF]) (fun s => by rw [singleF]) (fun s => by rw [singleF])
theorem All.sign_next {n : Nat} (ih : All T U k L d n) (hd : 0 ≤ d) (hd' : d ≤ 1000) (x : Bs) (q : Int) : Trio k L d EqE (signF T (n + 1) x q) (signF T (n + 1) x q) (signF U (n + 1) x q) :=
  (c.within (x := x) (g1 := fun s e => .mk { kind := q, pos := (tokAt T s.at_).pos } [e]) (g2 := fun s e => .mk { kind := q, pos := (tokAt T s.at_).pos } [e]) (g3 := fun s e => .mk { kind := q, pos := (tokAt U s.at_).pos } [e]) (v := fun _ => Ex.zero) (w1 := outS) (w2 := outS) (w3 := outS) hd ih.unary
    (fun _ _ e e' h => by
      have h' : sameE e' e = true := h
      simp [EqE, sameE, sameL, h'])
    (fun a o h0 h1 h2 h3 hf => ⟨a, h0, h1, by simp only [outS, w64_m h2 (by omega)], by simp only [outS, w64_m (a := o + d) (by omega) (by omega)]; congr 1; omega, by simp only [outS, w64_m (a := o + d) (by omega) (by omega)]; congr 1; omega⟩)
    (fun s h => rfl) (fun s h => rfl) (fun s h => rfl)).mono
    (fun s => by rw [signF]) (fun s => by rw [signF]) (fun s => by rw [signF])
omit c in
theorem All.chain_next {n : Nat} (ih : All T U k L d n) : Trio k L d EqE (chainF T (n + 1)) (chainF T (n + 1)) (chainF U (n + 1)) := by
  cases n with
  | zero => exact Trio.no fun s => by rw [chainF]; rfl
  | succ m =>
    exact (Trio.bind sameE_refl ih.first (fun x1 x2 x3 h => ih.chainL x1 x2 x3 h) (fun _ => pass_chainL _ _ _) (fun _ => pass_chainL _ _ _) (fun _ => pass_chainL _ _ _)).mono
      (fun s => by rw [chainF]) (fun s => by rw [chainF]) (fun s => by rw [chainF])
theorem All.unary_next {n : Nat} (ih : All T U k L d n) : Trio k L d EqE (unaryF T (n + 1)) (unaryF T (n + 1)) (unaryF U (n + 1)) := by
  intro a o x1 h0 h1 o0 o1 hx hfe
  have i2 : ∀ x, isB T ⟨a, o + d, 0, 0⟩ 4 x = isB T ⟨a, o, 0, 0⟩ 4 x := fun _ => rfl
  have i3 : isB U ⟨a + k, o + d, 0, 0⟩ 4 [45] = isB T ⟨a, o, 0, 0⟩ 4 [45] := c.is h0 h1 (by decide) (by decide)
  have i4 : isB U ⟨a + k, o + d, 0, 0⟩ 4 [33] = isB T ⟨a, o, 0, 0⟩ 4 [33] := c.is h0 h1 (by decide) (by decide)
  simp only [unaryF, i2, i3, i4] at hx ⊢
  revert hx
  cases isB T ⟨a, o, 0, 0⟩ 4 [45] with
  | true => exact fun hx => ih.sign _ _ a o x1 h0 h1 o0 o1 hx hfe
  | false =>
    cases isB T ⟨a, o, 0, 0⟩ 4 [33] with
    | true => exact fun hx => ih.sign _ _ a o x1 h0 h1 o0 o1 hx hfe
    | false => exact fun hx => ih.chain a o x1 h0 h1 o0 o1 hx hfe
theorem Tri.field {a o : Int} (h0 : 0 ≤ a) (hl : a < L) (e : Ex) (h : (fieldS T e ⟨a, o, 0, 0⟩).2.fe = 0) :
    a + 1 < L ∧ (∀ o' e', fieldS T e' ⟨a, o', 0, 0⟩ = (.mk { kind := 5, name := (tokAt T (a + 1)).text, pos := (tokAt T a).pos } [e'], ⟨a + 2, o', 0, 0⟩)) ∧
    ∀ o' e', fieldS U e' ⟨a + k, o', 0, 0⟩ = (.mk { kind := 5, name := (tokAt T (a + 1)).text, pos := (tokAt U (a + k)).pos } [e'], ⟨a + 2 + k, o', 0, 0⟩) := by
  have hg : ∀ o', goS ⟨a, o', 0, 0⟩ = ⟨a + 1, o', 0, 0⟩ := fun o' => (c.go h0 hl).1
  have hg3 : ∀ o', goS ⟨a + k, o', 0, 0⟩ = ⟨a + 1 + k, o', 0, 0⟩ := fun o' => (c.go h0 hl).2
  have hk : (tokAt T (a + 1)).kind = 1 := by
    by_cases hk : (tokAt T (a + 1)).kind = 1
    · exact hk
    · have hb : ((tokAt T (a + 1)).kind != 1) = true := by simpa using hk
      simp only [fieldS, hg, hb, cond_true, failS, if_true] at h
      exact absurd h (by show (2 : Int) ≠ 0; decide)
  have hl2 : a + 1 < L := c.lt (by omega) (by rw [hk]; decide)
  have hb : ((tokAt T (a + 1)).kind != 1) = false := by simp [hk]
  have hb3 : ((tokAt U (a + 1 + k)).kind != 1) = false := by rw [c.kind (by omega) hl2]; exact hb
  refine ⟨hl2, fun o' e' => ?_, fun o' e' => ?_⟩
  · simp only [fieldS, hg, hb, cond_false, (c.go (a := a + 1) (by omega) hl2).1]
    congr 2; omega
  · simp only [fieldS, hg3, hb3, cond_false, (c.go (a := a + 1) (by omega) hl2).2, c.text (a := a + 1) (by omega) hl2]
    congr 2; omega
theorem All.chainL_next {n : Nat} (ih : All T U k L d n) {e1 e2 e3 : Ex} (he : EqE e3 e1) : Trio k L d EqE (Ytnjoomfeddamcaa.chainL T (n + 1) e1) (Ytnjoomfeddamcaa.chainL T (n + 1) e2) (Ytnjoomfeddamcaa.chainL U (n + 1) e3) := by
  intro a o x1 h0 h1 o0 o1 hx hfe
  have he' : sameE e3 e1 = true := he
  by_cases hk : (tokAt T a).kind = 4
  · have hl : a < L := c.lt h1 (by rw [hk]; decide)
    have hb : ((tokAt T a).kind == 4) = true := by simp [hk]
    have hb3 : ((tokAt U (a + k)).kind == 4) = true := by rw [c.kind h0 hl]; exact hb
    simp only [Ytnjoomfeddamcaa.chainL, hb, hb3, c.text h0 hl, beq_self_eq_true, Bool.and_self, cond_true] at hx ⊢
    cases hd : (tokAt T a).text == [46] with
    | true =>
      simp only [hd, cond_true] at hx ⊢
      obtain ⟨m, rfl⟩ : ∃ m, n = m + 1 := by
        cases n with
        | zero => cases hx
        | succ m => exact ⟨m, rfl⟩
      have hf : (fieldS T e1 ⟨a, o, 0, 0⟩).2.fe = 0 := by
        by_cases hz : (fieldS T e1 ⟨a, o, 0, 0⟩).2.fe = 0
        · exact hz
        · obtain ⟨y, q1, q2⟩ := pass_chainL T m (fieldS T e1 ⟨a, o, 0, 0⟩).1 _ hz
          rw [hx] at q1; cases q1; rw [← q2]; exact hfe
      obtain ⟨l2, f1, f3⟩ := c.field h0 hl e1 hf
      rw [f1] at hx
      rw [f1, f3]
      exact ih.chainL _ _ _ (by simp [EqE, sameE, sameL, he']) (a + 2) o x1 (by omega) (by omega) o0 o1 hx hfe
    | false =>
      simp only [hd, cond_false] at hx ⊢
      cases hd2 : (tokAt T a).text == [91] with
      | true =>
        simp only [hd2, cond_true] at hx ⊢
        cases n with
        | zero => cases hx
        | succ m =>
          exact Trio.bind (G1 := fun x => Ytnjoomfeddamcaa.chainL T (m + 1) (.mk { kind := 6, pos := (tokAt T a).pos } [e1, x])) (G2 := fun x => Ytnjoomfeddamcaa.chainL T (m + 1) (.mk { kind := 6, pos := (tokAt T a).pos } [e2, x]))
            (G3 := fun x => Ytnjoomfeddamcaa.chainL U (m + 1) (.mk { kind := 6, pos := (tokAt U (a + k)).pos } [e3, x])) sameE_refl (ih.single [91] [93]) (fun y1 y2 y3 h => ih.chainL _ _ _ (by
              have h' : sameE y3 y1 = true := h
              simp [EqE, sameE, sameL, he', h'])) (fun _ => pass_chainL _ _ _) (fun _ => pass_chainL _ _ _) (fun _ => pass_chainL _ _ _) a o x1 h0 h1 o0 o1 hx hfe
      | false =>
        simp only [hd2, cond_false] at hx ⊢
        cases hx
        exact ⟨_, _, rfl, rfl, a, h0, h1, rfl, .inl ⟨rfl, rfl, he⟩⟩
  · have hb : ((tokAt T a).kind == 4) = false := by simpa using hk
    simp only [Ytnjoomfeddamcaa.chainL, hb, Bool.and_false, cond_false] at hx ⊢
    cases hx
    refine ⟨_, (e3, ⟨a + k, o + d, 0, 0⟩), rfl, ?_, a, h0, h1, rfl, .inl ⟨rfl, rfl, he⟩⟩
    rcases Int.lt_or_eq_of_le h1 with h2 | h2
    · rw [c.kind h0 h2, hb]; rfl
    · subst h2
      rcases c.endU with q | ⟨q, q'⟩
      · simp [q]
      · simp [q, q']
omit c in
theorem sameL_snoc : ∀ {l l' : List Ex} {e e' : Ex}, sameL l l' = true → sameE e e' = true → sameL (l ++ [e]) (l' ++ [e']) = true
  | [], [], e, e', _, h => by simp [sameL, h]
  | [], _ :: _, _, _, h, _ => by simp [sameL] at h
  | _ :: _, [], _, _, h, _ => by simp [sameL] at h
  | x :: l, y :: l', e, e', h, h' => by
    simp only [sameL, Bool.and_eq_true] at h
    simp only [List.cons_append, sameL, h.1, sameL_snoc h.2 h', Bool.and_self]
theorem All.listL_next {n : Nat} (ih : All T U k L d n) (hd : 0 ≤ d) (hd' : d ≤ 1000) {l1 l2 l3 : List Ex} (he : EqL l3 l1) : TrioC k L d EqL (Ytnjoomfeddamcaa.listL T (n + 1) l1) (Ytnjoomfeddamcaa.listL T (n + 1) l2) (Ytnjoomfeddamcaa.listL U (n + 1) l3) := by
  intro a o x1 h0 h1 o0 o1 hx hfe
  have i2 : isB T ⟨a, o + 1 + d, 0, 0⟩ 4 [44] = isB T ⟨a, o + 1, 0, 0⟩ 4 [44] := rfl
  have i3 : isB U ⟨a + k, o + 1 + d, 0, 0⟩ 4 [44] = isB T ⟨a, o + 1, 0, 0⟩ 4 [44] := c.is h0 h1 (by decide) (by decide)
  simp only [Ytnjoomfeddamcaa.listL, takesS, i2, i3] at hx ⊢
  cases hb : isB T ⟨a, o + 1, 0, 0⟩ 4 [44] with
  | false =>
    simp only [hb, cond_false] at hx ⊢
    cases hx
    obtain ⟨hl, e1, e2, e3⟩ := c.closes (d := d) h0 h1 (by omega) (by omega) hd hd' hfe
    have ho : o + 1 - 1 = o := by omega
    rw [ho] at e1 e2 e3
    exact ⟨_, _, rfl, rfl, a + 1, by omega, by omega, e1, .inl ⟨e2, e3, he⟩⟩
  | true =>
    obtain ⟨hl, _, _⟩ := c.is_lt h1 (by decide) hb
    simp only [hb, cond_true, (c.go h0 hl).1, (c.go h0 hl).2] at hx ⊢
    cases n with
    | zero => cases hx
    | succ m =>
      cases hF : rowF T (m + 1) 0 ⟨a + 1, o + 1, 0, 0⟩ with
      | none => rw [hF] at hx; cases hx
      | some y =>
        rw [hF] at hx
        simp only [Option.bind_some] at hx
        have hy : y.2.fe = 0 := by
          by_cases hz : y.2.fe = 0
          · exact hz
          · obtain ⟨z, q1, q2⟩ := pass_listL T m (l1 ++ [y.1]) y.2 hz
            rw [hx] at q1; cases q1; rw [← q2]; exact hfe
        obtain ⟨y2, y3, f2, f3, b, b0, b1, eq1, hh⟩ := ih.row 0 (a + 1) (o + 1) y (by omega) (by omega) (by omega) (by omega) hF hy
        rw [eq1] at hx
        rw [f2, f3]
        simp only [Option.bind_some]
        rcases hh with ⟨q2, q3, q⟩ | ⟨q2, q3⟩
        · rw [q2, q3]
          exact ih.listL _ _ _ (sameL_snoc he q) b o x1 b0 b1 o0 o1 hx hfe
        · obtain ⟨z2, g2, r2⟩ := pass_listL T m (l2 ++ [y2.1]) y2.2 (by rw [q2]; decide)
          obtain ⟨z3, g3, r3⟩ := pass_listL U m (l3 ++ [y3.1]) y3.2 (by rw [q3]; decide)
          obtain ⟨_, _, _, _, b', c0, c1, ceq, _⟩ := ih.listL _ (l1 ++ [y.1]) _ (sameL_refl (l1 ++ [y.1])) b o x1 b0 b1 o0 o1 hx hfe
          exact ⟨z2, z3, g2, g3, b', c0, c1, ceq, .inr ⟨by rw [r2, q2], by rw [r3, q3]⟩⟩
omit c in
theorem rowF_end {a o : Int} (hk : (tokAt T a).kind = 0) : ∀ (n lev : Nat) (y : Ex × St), lev ≤ 5 → rowF T n lev ⟨a, o, 0, 0⟩ = some y → y.2.fe ≠ 0
  | 0, _, y, _, h => by cases h
  | n + 1, lev, y, h5, h => by
    rw [rowF] at h
    split at h
    · have hi : ∀ x, isB T ⟨a, o, 0, 0⟩ 4 x = false := fun x => by simp [isB, hk]
      cases n with
      | zero => cases h
      | succ n =>
        rw [unaryF, hi, hi, cond_false, cond_false] at h
        cases n with
        | zero => cases h
        | succ n =>
          rw [chainF] at h
          cases n with
          | zero => cases h
          | succ n =>
            have hf : firstF T (n + 1) ⟨a, o, 0, 0⟩ = some (.zero, failS T 2 ⟨a, o, 0, 0⟩) := by simp [firstF, hk]
            rw [hf, Option.bind_some] at h
            have hz : (failS T 2 ⟨a, o, 0, 0⟩).fe ≠ 0 := by simp [failS]
            obtain ⟨z, q1, q2⟩ := pass_chainL T n .zero _ hz
            rw [q1] at h; cases h; rw [q2]; exact hz
    · cases hF : rowF T n (lev + 1) ⟨a, o, 0, 0⟩ with
      | none => rw [hF] at h; cases h
      | some p =>
        rw [hF, Option.bind_some] at h
        have hp := rowF_end hk n (lev + 1) p (by omega) hF
        cases n with
        | zero => cases hF
        | succ n =>
          obtain ⟨z, q1, q2⟩ := pass_rowL T n lev p.1 _ hp
          rw [q1] at h; cases h; rw [q2]; exact hp
theorem All.list_next {n : Nat} (ih : All T U k L d n) (hd : 0 ≤ d) (hd' : d ≤ 1000) : Trio k L d EqL (listF T (n + 1)) (listF T (n + 1)) (listF U (n + 1)) := by
  intro a o x1 h0 h1 o0 o1 hx hfe
  rcases opens_fe (T := T) [40] a o with ⟨t1, t2⟩ | ⟨t1, t2⟩
  · obtain ⟨hl, h5, e1, hh⟩ := c.opens (d := d) h0 h1 o0 hd t2
    simp only [listF, e1, cond_true] at hx
    have hin : ∀ (F2 F3 : R (List Ex)), (∃ x2 x3, F2 = some x2 ∧ F3 = some x3 ∧ Out k L d o EqL x1 x2 x3) → ∃ b : Int, 0 ≤ b ∧ b ≤ L ∧ x1.2 = ⟨b, o, 0, 0⟩ := by
      rintro F2 F3 ⟨_, _, _, _, b, b0, b1, e, _⟩; exact ⟨b, b0, b1, e⟩
    have key : ∃ x2 x3, (bif isB T ⟨a + 1, o + 1 + d, 0, 0⟩ 4 [41] then some ([], (closesS T [41] ⟨a + 1, o + 1 + d, 0, 0⟩).2) else (rowF T n 0 ⟨a + 1, o + 1 + d, 0, 0⟩).bind fun p => Ytnjoomfeddamcaa.listL T n [p.1] p.2) = some x2 ∧
        (bif isB U ⟨a + 1 + k, o + 1 + d, 0, 0⟩ 4 [41] then some ([], (closesS U [41] ⟨a + 1 + k, o + 1 + d, 0, 0⟩).2) else (rowF U n 0 ⟨a + 1 + k, o + 1 + d, 0, 0⟩).bind fun p => Ytnjoomfeddamcaa.listL U n [p.1] p.2) = some x3 ∧ Out k L d o EqL x1 x2 x3 := by
      cases hb : isB T ⟨a + 1, o + 1, 0, 0⟩ 4 [41] with
      | true =>
        obtain ⟨hl1, hk1, ht1⟩ := c.is_lt (a := a + 1) (by omega) (by decide) hb
        have hb2 : isB T ⟨a + 1, o + 1 + d, 0, 0⟩ 4 [41] = true := hb
        have hb3 : isB U ⟨a + 1 + k, o + 1 + d, 0, 0⟩ 4 [41] = true := by
          simp [isB, c.kind (a := a + 1) (by omega) hl1, c.text (a := a + 1) (by omega) hl1, hk1, ht1]
        rw [hb, cond_true, Option.some.injEq] at hx
        subst hx
        obtain ⟨_, e1', e2', e3'⟩ := c.closes (d := d) (a := a + 1) (o := o + 1) (by omega) (by omega) (by omega) (by omega) hd hd' hfe
        have ho : o + 1 - 1 = o := by omega
        rw [ho] at e1' e2' e3'
        refine ⟨_, _, by rw [hb2, cond_true], by rw [hb3, cond_true], a + 1 + 1, by omega, by omega, e1', .inl ⟨e2', e3', rfl⟩⟩
      | false =>
        rw [hb, cond_false] at hx
        cases n with
        | zero => cases hx
        | succ m =>
          cases hF : rowF T (m + 1) 0 ⟨a + 1, o + 1, 0, 0⟩ with
          | none => rw [hF] at hx; cases hx
          | some y =>
            rw [hF, Option.bind_some] at hx
            have hy : y.2.fe = 0 := by
              by_cases hz : y.2.fe = 0
              · exact hz
              · obtain ⟨z, q1, q2⟩ := pass_listL T m [y.1] y.2 hz
                rw [hx] at q1; cases q1; rw [← q2]; exact hfe
            have hl1 : a + 1 < L := by
              rcases Int.lt_or_eq_of_le (show a + 1 ≤ (L : Int) by omega) with h2 | h2
              · exact h2
              · exact absurd hy (rowF_end (by rw [h2]; exact c.endT) _ 0 y (by omega) hF)
            have hb2 : isB T ⟨a + 1, o + 1 + d, 0, 0⟩ 4 [41] = false := hb
            have hb3 : isB U ⟨a + 1 + k, o + 1 + d, 0, 0⟩ 4 [41] = false := by
              rw [← hb]
              simp only [isB, c.kind (a := a + 1) (by omega) hl1, c.text (a := a + 1) (by omega) hl1]
            rw [hb2, hb3, cond_false, cond_false]
            obtain ⟨y2, y3, f2, f3, b, b0, b1, eq1, hh⟩ := ih.row 0 (a + 1) (o + 1) y (by omega) (by omega) (by omega) (by omega) hF hy
            rw [eq1] at hx
            rw [f2, f3, Option.bind_some, Option.bind_some]
            rcases hh with ⟨q2, q3, q⟩ | ⟨q2, q3⟩
            · rw [q2, q3]
              exact ih.listL _ _ _ (by simp only [EqL, sameL, Bool.and_true]; exact q) b o x1 b0 b1 o0 h5 hx hfe
            · obtain ⟨z2, g2, r2⟩ := pass_listL T m [y2.1] y2.2 (by rw [q2]; decide)
              obtain ⟨z3, g3, r3⟩ := pass_listL U m [y3.1] y3.2 (by rw [q3]; decide)
              obtain ⟨_, _, _, _, b', c0, c1, ceq, _⟩ := ih.listL _ [y.1] _ (sameL_refl [y.1]) b o x1 b0 b1 o0 h5 hx hfe
              exact ⟨z2, z3, g2, g3, b', c0, c1, ceq, .inr ⟨by rw [r2, q2], by rw [r3, q3]⟩⟩
    rcases hh with ⟨q2, q3⟩ | ⟨s2, s3, q2, q3, r2, r3⟩
    · simp only [listF, q2, q3, cond_true]; exact key
    · obtain ⟨b, b0, b1, e⟩ := hin _ _ key
      simp only [listF, q2, q3, cond_false]
      exact ⟨_, _, rfl, rfl, b, b0, b1, e, .inr ⟨r2, r3⟩⟩
  · simp only [listF, t1, cond_false, Option.some.injEq] at hx
    subst hx
    exact absurd hfe t2
end
end Go.Proofs.Ytnjoomfeddamcaa

namespace Go.Proofs.Ytnjoomfeddamcaa
open Go.Ev
section
variable {T U : List Tok} {k L : Nat} {d : Int} (c : Tri T U k L)
theorem Trio.map {α β : Type} {E : α → α → Prop} {E' : β → β → Prop} {F1 F2 F3 : St → R α} {g1 g2 g3 : α → β} (hr : ∀ x, E x x) (h : Trio k L d E F1 F2 F3) (hg : ∀ x1 x3, E x3 x1 → E' (g3 x3) (g1 x1)) :
    Trio k L d E' (fun s => (F1 s).bind fun p => some (g1 p.1, p.2)) (fun s => (F2 s).bind fun p => some (g2 p.1, p.2)) (fun s => (F3 s).bind fun p => some (g3 p.1, p.2)) :=
  Trio.bind (G1 := fun x s => some (g1 x, s)) (G2 := fun x s => some (g2 x, s)) (G3 := fun x s => some (g3 x, s)) hr h (fun x1 x2 x3 hx a o y h0 h1 o0 o1 e hfe => by
    cases e
    exact ⟨_, _, rfl, rfl, a, h0, h1, rfl, .inl ⟨rfl, rfl, hg _ _ hx⟩⟩) (fun _ s _ => ⟨_, rfl, rfl⟩) (fun _ s _ => ⟨_, rfl, rfl⟩) (fun _ s _ => ⟨_, rfl, rfl⟩)
theorem single_failed {x y : Bs} {n : Nat} {s : St} {z : Ex × St} (hs : s.fe ≠ 0) (h : singleF T n x y s = some z) : z.2.fe ≠ 0 := by
  cases n with
  | zero => cases h
  | succ n =>
    have : opensS T x s = (false, s) := by simp [opensS, isB_failed hs, failS_failed hs]
    rw [singleF, this, cond_false] at h
    cases h; exact hs
include c
theorem All.name_next {n : Nat} (ih : All T U k L d n) (a o : Int) (x1 : Ex × St) (h0 : 0 ≤ a) (hl : a < L) (hk : (tokAt T a).kind = 1) (o0 : 0 ≤ o) (o1 : o ≤ 50) (hx : nameF T (n + 1) ⟨a, o, 0, 0⟩ = some x1) (hfe : x1.2.fe = 0) :
    ∃ x2 x3, nameF T (n + 1) ⟨a, o + d, 0, 0⟩ = some x2 ∧ nameF U (n + 1) ⟨a + k, o + d, 0, 0⟩ = some x3 ∧ Out k L d o EqE x1 x2 x3 := by
  have i2 : isB T ⟨a + 1, o + d, 0, 0⟩ 4 [40] = isB T ⟨a + 1, o, 0, 0⟩ 4 [40] := rfl
  have i3 : isB U ⟨a + 1 + k, o + d, 0, 0⟩ 4 [40] = isB T ⟨a + 1, o, 0, 0⟩ 4 [40] := c.is (by omega) (by omega) (by decide) (by decide)
  simp only [nameF, (c.go h0 hl).1, (c.go h0 hl).2, i2, i3, c.text h0 hl] at hx ⊢
  cases hb : isB T ⟨a + 1, o, 0, 0⟩ 4 [40] with
  | true =>
    rw [hb, cond_true] at hx
    simp only [cond_true]
    exact Trio.map (E' := EqE) (g1 := fun l => .mk { kind := 7, name := (tokAt T a).text, pos := (tokAt T a).pos } l) (g2 := fun l => .mk { kind := 7, name := (tokAt T a).text, pos := (tokAt T a).pos } l)
      (g3 := fun l => .mk { kind := 7, name := (tokAt T a).text, pos := (tokAt U (a + k)).pos } l) sameL_refl ih.list (fun l1 l3 h => by
        have h' : sameL l3 l1 = true := h
        show sameE (.mk _ l3) (.mk _ l1) = true
        simp [sameE, h']) (a + 1) o x1 (by omega) (by omega) o0 o1 hx hfe
  | false =>
    rw [hb, cond_false] at hx
    simp only [cond_false]
    cases hx
    exact ⟨_, _, rfl, rfl, a + 1, by omega, by omega, rfl, .inl ⟨rfl, rfl, by simp [EqE, sameE, sameL]⟩⟩
theorem All.fresh_next {n : Nat} (ih : All T U k L d n) (a o : Int) (x1 : Ex × St) (h0 : 0 ≤ a) (hl : a < L) (o0 : 0 ≤ o) (o1 : o ≤ 50) (hx : freshF T (n + 1) ⟨a, o, 0, 0⟩ = some x1) (hfe : x1.2.fe = 0) :
    ∃ x2 x3, freshF T (n + 1) ⟨a, o + d, 0, 0⟩ = some x2 ∧ freshF U (n + 1) ⟨a + k, o + d, 0, 0⟩ = some x3 ∧ Out k L d o EqE x1 x2 x3 := by
  have i2 : isB T ⟨a + 1, o + d, 0, 0⟩ 4 [91] = isB T ⟨a + 1, o, 0, 0⟩ 4 [91] := rfl
  have i3 : isB U ⟨a + 1 + k, o + d, 0, 0⟩ 4 [91] = isB T ⟨a + 1, o, 0, 0⟩ 4 [91] := c.is (by omega) (by omega) (by decide) (by decide)
  simp only [freshF, (c.go h0 hl).1, (c.go h0 hl).2, i2, i3] at hx ⊢
  cases hb : isB T ⟨a + 1, o, 0, 0⟩ 4 [91] with
  | true =>
    obtain ⟨hl1, _, _⟩ := c.is_lt (by omega) (by decide) hb
    rw [hb, cond_true] at hx
    simp only [cond_true, (c.go (a := a + 1) (by omega) hl1).1, (c.go (a := a + 1) (by omega) hl1).2] at hx ⊢
    cases hF : singleF T n [40] [41] (wantsS T [93] (ofS T ⟨a + 1 + 1, o, 0, 0⟩).2).2 with
    | none => rw [hF] at hx; cases hx
    | some y =>
      have hx' := hx
      rw [hF, Option.bind_some, Option.some.injEq] at hx'
      have hy : y.2.fe = 0 := by rw [← hx'] at hfe; exact hfe
      have hw : (wantsS T [93] (ofS T ⟨a + 1 + 1, o, 0, 0⟩).2).2.fe = 0 := by
        by_cases hz : (wantsS T [93] (ofS T ⟨a + 1 + 1, o, 0, 0⟩).2).2.fe = 0
        · exact hz
        · exact absurd hy (single_failed hz hF)
      have ho : (ofS T ⟨a + 1 + 1, o, 0, 0⟩).2.fe = 0 := by
        by_cases hz : (ofS T ⟨a + 1 + 1, o, 0, 0⟩).2.fe = 0
        · exact hz
        · simp only [wantsS, isB_failed hz, cond_false, failS_failed hz] at hw
          exact absurd hw hz
      obtain ⟨b, b0, b1, f1, f2⟩ := c.of (a := a + 1 + 1) (by omega) (by omega) ho
      generalize (ofS T ⟨a + 1 + 1, o, 0, 0⟩).1 = q at f1 f2
      rw [f1 o] at hw
      obtain ⟨hlb, g1, g2⟩ := c.wants b0 b1 hw
      simp only [f1, f2, g1, g2] at hx ⊢
      exact Trio.map (E' := EqE) (g1 := fun e => .mk { kind := 9, ofn := q.1, ofd := q.2, pos := (tokAt T a).pos } [e])
        (g2 := fun e => .mk { kind := 9, ofn := q.1, ofd := q.2, pos := (tokAt T a).pos } [e])
        (g3 := fun e => .mk { kind := 9, ofn := q.1, ofd := q.2, pos := (tokAt U (a + k)).pos } [e]) sameE_refl (ih.single [40] [41]) (fun e1 e3 h => by
          have h' : sameE e3 e1 = true := h
          show sameE (.mk _ [e3]) (.mk _ [e1]) = true
          simp [sameE, sameL, h']) (b + 1) o x1 (by omega) (by omega) o0 o1 hx hfe
  | false =>
    rw [hb, cond_false] at hx
    simp only [cond_false]
    cases hx
    have hk : (tokAt T (a + 1)).kind = 1 := by
      by_cases hk : (tokAt T (a + 1)).kind = 1
      · exact hk
      · have hb' : ((tokAt T (a + 1)).kind != 1) = true := by simpa using hk
        simp only [hb', cond_true, goS, failS, if_true] at hfe
        exact absurd hfe (by decide)
    have hl1 : a + 1 < L := c.lt (by omega) (by rw [hk]; decide)
    have hb' : ((tokAt T (a + 1)).kind != 1) = false := by simp [hk]
    have hb3 : ((tokAt U (a + 1 + k)).kind != 1) = false := by rw [c.kind (by omega) hl1]; exact hb'
    simp only [hb', hb3, cond_false, (c.go (a := a + 1) (by omega) hl1).1, (c.go (a := a + 1) (by omega) hl1).2, c.text (a := a + 1) (by omega) hl1]
    exact ⟨_, _, rfl, rfl, a + 1 + 1, by omega, by omega, rfl, .inl ⟨rfl, rfl, by simp [EqE, sameE, sameL]⟩⟩
theorem Tri.read {a o : Int} (h0 : 0 ≤ a) (hl : a < L) (o0 : 0 ≤ o) (o1 : o ≤ 50) (hd : 0 ≤ d) (hd' : d ≤ 1000) (h : (readS T ⟨a, o, 0, 0⟩).2.fe = 0) : Out k L d o EqE (readS T ⟨a, o, 0, 0⟩) (readS T ⟨a, o + d, 0, 0⟩) (readS U ⟨a + k, o + d, 0, 0⟩) := by
  simp only [readS, (c.go h0 hl).1, (c.go h0 hl).2] at h ⊢
  rcases opens_fe (T := T) [40] (a + 1) o with ⟨t1, t2⟩ | ⟨t1, t2⟩
  · obtain ⟨hl1, h5, e1, hh⟩ := c.opens (d := d) (a := a + 1) (by omega) (by omega) o0 hd t2
    simp only [e1, cond_true] at h ⊢
    obtain ⟨hl2, e1', e2', e3'⟩ := c.closes (d := d) (a := a + 1 + 1) (o := o + 1) (by omega) (by omega) (by omega) (by omega) hd hd' h
    have ho : o + 1 - 1 = o := by omega
    rw [ho] at e1' e2' e3'
    refine ⟨a + 1 + 1 + 1, by omega, by omega, e1', ?_⟩
    rcases hh with ⟨q2, q3⟩ | ⟨s2, s3, q2, q3, r2, r3⟩
    · simp only [q2, q3, cond_true]
      exact .inl ⟨e2', e3', by simp [EqE, sameE, sameL]⟩
    · simp only [q2, q3, cond_false]
      exact .inr ⟨r2, r3⟩
  · rw [t1, cond_false] at h
    exact absurd h t2
theorem All.first_next {n : Nat} (ih : All T U k L d n) (hd : 0 ≤ d) (hd' : d ≤ 1000) : Trio k L d EqE (firstF T (n + 1)) (firstF T (n + 1)) (firstF U (n + 1)) := by
  intro a o x1 h0 h1 o0 o1 hx hfe
  have hl : a < L := by
    rcases Int.lt_or_eq_of_le h1 with h2 | h2
    · exact h2
    · have hk : (tokAt T a).kind = 0 := by rw [h2]; exact c.endT
      have hf : firstF T (n + 1) ⟨a, o, 0, 0⟩ = some (.zero, failS T 2 ⟨a, o, 0, 0⟩) := by simp [firstF, hk]
      rw [hf] at hx; cases hx
      simp [failS] at hfe
  have bad : ∀ {x : Ex × St}, some (Ex.zero, failS T 2 ⟨a, o, 0, 0⟩) = some x → x.2.fe = 0 → False := by
    intro x h hf
    cases h; simp [failS] at hf
  simp only [firstF, ne_eq, not_true_eq_false, if_false, c.kind h0 hl, c.text h0 hl, c.num h0 hl, (c.go h0 hl).1, (c.go h0 hl).2] at hx ⊢
  by_cases k2 : (tokAt T a).kind = 2
  · simp only [k2, if_true] at hx ⊢
    cases hx
    exact ⟨_, _, rfl, rfl, a + 1, by omega, by omega, rfl, .inl ⟨rfl, rfl, by simp [EqE, sameE, sameL]⟩⟩
  · simp only [k2, if_false] at hx ⊢
    by_cases k1 : (tokAt T a).kind = 1
    · simp only [k1, if_true] at hx ⊢
      exact ih.name a o x1 h0 hl k1 o0 o1 hx hfe
    · simp only [k1, if_false] at hx ⊢
      by_cases k34 : (tokAt T a).kind = 3 ∨ (tokAt T a).kind = 4
      · simp only [k34, if_true] at hx ⊢
        cases hk4 : (tokAt T a).kind == 4 with
        | true =>
          simp only [hk4, cond_true] at hx ⊢
          cases ht : (tokAt T a).text == [40] with
          | true =>
            simp only [ht, cond_true] at hx ⊢
            exact ih.single _ _ a o x1 h0 h1 o0 o1 hx hfe
          | false => simp only [ht, cond_false] at hx; exact (bad hx hfe).elim
        | false =>
          simp only [hk4, cond_false] at hx ⊢
          cases ht1 : (tokAt T a).text == [116, 114, 117, 101] || (tokAt T a).text == [102, 97, 108, 115, 101] with
          | true =>
            simp only [ht1, cond_true, truthS, (c.go h0 hl).1, (c.go h0 hl).2, c.text h0 hl] at hx ⊢
            cases hx
            exact ⟨_, _, rfl, rfl, a + 1, by omega, by omega, rfl, .inl ⟨rfl, rfl, by simp [EqE, sameE, sameL]⟩⟩
          | false =>
            simp only [ht1, cond_false] at hx ⊢
            cases ht2 : (tokAt T a).text == [110, 117, 108, 108] with
            | true =>
              simp only [ht2, cond_true, nullS, (c.go h0 hl).1, (c.go h0 hl).2] at hx ⊢
              cases hx
              obtain ⟨b, b0, b1, f1, f2⟩ := c.of (a := a + 1) (by omega) (by omega) hfe
              refine ⟨_, _, rfl, rfl, b, b0, b1, by rw [f1 o], .inl ⟨by rw [f1 (o + d)], by rw [f2 (o + d)], ?_⟩⟩
              rw [f2 (o + d)]
              simp [EqE, sameE, sameL]
            | false =>
              simp only [ht2, cond_false] at hx ⊢
              cases ht3 : (tokAt T a).text == [110, 101, 119] with
              | true =>
                simp only [ht3, cond_true] at hx ⊢
                exact ih.fresh a o x1 h0 hl o0 o1 hx hfe
              | false =>
                simp only [ht3, cond_false] at hx ⊢
                cases ht4 : (tokAt T a).text == [108, 101, 110] with
                | true =>
                  simp only [ht4, cond_true] at hx ⊢
                  exact Trio.map (E' := EqE) (g1 := fun e => .mk { kind := 10, pos := (tokAt T a).pos } [e]) (g2 := fun e => .mk { kind := 10, pos := (tokAt T a).pos } [e]) (g3 := fun e => .mk { kind := 10, pos := (tokAt U (a + k)).pos } [e]) sameE_refl (ih.single [40] [41]) (fun e1 e3 h => by
                    have h' : sameE e3 e1 = true := h
                    show sameE (.mk _ [e3]) (.mk _ [e1]) = true
                    simp [sameE, sameL, h']) (a + 1) o x1 (by omega) (by omega) o0 o1 hx hfe
                | false =>
                  simp only [ht4, cond_false] at hx ⊢
                  cases ht5 : (tokAt T a).text == [114, 101, 97, 100] with
                  | true =>
                    simp only [ht5, cond_true] at hx ⊢
                    cases hx
                    exact ⟨_, _, rfl, rfl, c.read h0 hl o0 o1 hd hd' hfe⟩
                  | false => simp only [ht5, cond_false] at hx; exact (bad hx hfe).elim
      · simp only [k34, if_false] at hx; exact (bad hx hfe).elim
theorem All.rowL_all {n : Nat} (ih : All T U k L d n) (lev : Nat) (e1 e2 e3 : Ex) (he : EqE e3 e1) : Trio k L d EqE (Ytnjoomfeddamcaa.rowL T (n + 1) lev e1) (Ytnjoomfeddamcaa.rowL T (n + 1) lev e2) (Ytnjoomfeddamcaa.rowL U (n + 1) lev e3) := by
  rcases Nat.eq_zero_or_pos n with rfl | hn
  · intro a o x1 h0 h1 o0 o1 hx hfe
    by_cases hk : kindS T lev ⟨a, o, 0, 0⟩ = 0
    · have k2 : kindS T lev ⟨a, o + d, 0, 0⟩ = kindS T lev ⟨a, o, 0, 0⟩ := kindL_opn _ _ _ _
      have k3 : kindS U lev ⟨a + k, o + d, 0, 0⟩ = kindS T lev ⟨a, o, 0, 0⟩ := c.kindS h0 h1 lev
      simp only [Ytnjoomfeddamcaa.rowL, k2, k3, hk, if_true] at hx ⊢
      cases hx
      exact ⟨_, _, rfl, rfl, a, h0, h1, rfl, .inl ⟨rfl, rfl, he⟩⟩
    · rw [Ytnjoomfeddamcaa.rowL, if_neg hk] at hx; cases hx
  · exact All.rowL_next c ih (by omega) lev he
theorem All.of (hd : 0 ≤ d) (hd' : d ≤ 1000) : ∀ n, All T U k L d n
  | 0 => All.zero
  | n + 1 =>
    have ih := All.of hd hd' n
    { row := fun lev => ih.row_next lev
      rowL := fun lev e1 e2 e3 he => All.rowL_all c ih lev e1 e2 e3 he
      unary := All.unary_next c ih
      sign := fun x q => All.sign_next c ih hd hd' x q
      chain := ih.chain_next
      chainL := fun e1 e2 e3 he => All.chainL_next c ih he
      single := fun x y => All.single_next c ih hd hd' x y
      first := All.first_next c ih hd hd'
      name := All.name_next c ih
      fresh := All.fresh_next c ih
      list := All.list_next c ih hd hd'
      listL := fun l1 l2 l3 he => All.listL_next c ih hd hd' he }
end
end Go.Proofs.Ytnjoomfeddamcaa

namespace Go.Proofs.Ytnjoomfeddamcaa
open Go.Ev
theorem tok_key {U : List Tok} {i : Nat} {q : Int × Bs × Int} (h : (U.map Tok.key)[i]? = some q) : (tokAt U (i : Int)).key = q := by
  rw [List.getElem?_map] at h
  cases hu : U[i]? with
  | none => rw [hu] at h; cases h
  | some t =>
    rw [hu] at h
    have hi : i < U.length := (List.getElem?_eq_some_iff.1 hu).1
    have : tokAt U (i : Int) = t := by
      unfold tokAt
      rw [if_neg (by omega)]
      simp only [Int.toNat_natCast, hu, Option.getD_some]
    rw [this]
    simpa using h
theorem tok_key' {U : List Tok} {i : Int} {q : Int × Bs × Int} (h0 : 0 ≤ i) (h : (U.map Tok.key)[i.toNat]? = some q) : (tokAt U i).key = q := by
  have := tok_key h
  rwa [Int.toNat_of_nonneg h0] at this
theorem key_kind {t : Tok} {a : Int} {b : Bs} {c : Int} (h : t.key = (a, b, c)) : t.kind = a ∧ t.text = b := ⟨congrArg (·.1) h, congrArg (·.2.1) h⟩
theorem wrap_step {U : List Tok} {f : Nat} {i : Int} {e : Ex} {s1 : St} (h0 : 0 ≤ i) (h1 : i < 50) (hk : (tokAt U i).kind = 4) (ht : (tokAt U i).text = [40]) (hr : rowF U f 0 ⟨i + 1, i + 1, 0, 0⟩ = some (e, s1)) (hs : StopAt U (closesS U [41] s1).2) :
    rowF U (f + 10) 0 ⟨i, i, 0, 0⟩ = some (e, (closesS U [41] s1).2) := by
  have hs1 : singleF U (f + 1) [40] [41] ⟨i, i, 0, 0⟩ = some (e, (closesS U [41] s1).2) := by
    rw [singleF, opens_go h0 (by omega) h0 h1 hk ht]
    simp only [cond_true, hr, Option.bind_some]
  have hf : firstF U (f + 1 + 1) ⟨i, i, 0, 0⟩ = some (e, (closesS U [41] s1).2) := by
    simp only [firstF, hk, ht, ne_eq, not_true_eq_false, if_false, beq_self_eq_true, cond_true, hs1]
    simp
  exact rowF_wrap (m := f + 4) (unary_chain (n := f + 1) (by simp [ht]) hf (hs.chain _ _)) hs (by omega)
theorem wrap_no {U : List Tok} {f : Nat} {i : Int} (h1 : 50 ≤ i) (hk : (tokAt U i).kind = 4) (ht : (tokAt U i).text = [40]) : ∃ s1, rowF U (f + 10) 0 ⟨i, i, 0, 0⟩ = some (.zero, s1) ∧ s1.fe = 4 := by
  obtain ⟨s', q1, q2, q3⟩ := opens_no h1 hk ht
  have hst : StopAt U s' := .inl (by rw [q2]; decide)
  have hf : firstF U (f + 1 + 1) ⟨i, i, 0, 0⟩ = some (.zero, s') := by
    simp only [firstF, hk, ht, ne_eq, not_true_eq_false, if_false, beq_self_eq_true, cond_true, singleF, q1, cond_false]
    simp
  exact ⟨s', rowF_wrap (m := f + 4) (unary_chain (n := f + 1) (by simp [ht]) hf (hst.chain _ _)) hst (by omega), q2⟩
section
variable {U : List Tok} {n L : Nat}
theorem wraps_good (hn : n ≤ 50) (hL : L ≤ 1000) (ho : ∀ i : Nat, i < n → (tokAt U i).kind = 4 ∧ (tokAt U i).text = [40]) (hc : ∀ i : Nat, i < n → (tokAt U ((L + n + i : Nat) : Int)).kind = 4 ∧ (tokAt U ((L + n + i : Nat) : Int)).text = [41]) (hz : (tokAt U ((L + n + n : Nat) : Int)).kind = 0) {f : Nat} {e : Ex}
    (h : rowF U f 0 ⟨n, n, 0, 0⟩ = some (e, ⟨((L + n : Nat) : Int), n, 0, 0⟩)) : ∀ j i : Nat, i + j = n → rowF U (f + 10 * j) 0 ⟨i, i, 0, 0⟩ = some (e, ⟨((L + n + j : Nat) : Int), i, 0, 0⟩)
  | 0, i, hij => by obtain rfl : i = n := by omega
                    exact h
  | j + 1, i, hij => by
    have ih := wraps_good hn hL ho hc hz h j (i + 1) (by omega)
    obtain ⟨o1, o2⟩ := ho i (by omega)
    obtain ⟨c1, c2⟩ := hc j (by omega)
    have hcl : (closesS U [41] ⟨((L + n + j : Nat) : Int), ((i + 1 : Nat) : Int), 0, 0⟩).2 = ⟨((L + n + (j + 1) : Nat) : Int), (i : Int), 0, 0⟩ := by
      rw [closes_good (by omega) (by omega) (by omega) (by omega) c1 c2]
      congr 1; omega
    have hst : StopAt U ⟨((L + n + (j + 1) : Nat) : Int), (i : Int), 0, 0⟩ := by
      by_cases hj : j + 1 = n
      · exact .inr (.inl (by simp only; rw [hj]; exact hz))
      · exact .inr (.inr ⟨(hc (j + 1) (by omega)).1, .inl (hc (j + 1) (by omega)).2⟩)
    have := wrap_step (U := U) (f := f + 10 * j) (i := (i : Int)) (e := e) (s1 := ⟨((L + n + j : Nat) : Int), ((i + 1 : Nat) : Int), 0, 0⟩) (by omega) (by omega) o1 o2 (by simpa using ih) (by rw [hcl]; exact hst)
    rw [hcl] at this
    exact this
theorem wraps_bad (ho : ∀ i : Nat, i < n → (tokAt U i).kind = 4 ∧ (tokAt U i).text = [40]) {f : Nat} (h : n ≤ 50 → ∃ e s1, rowF U f 0 ⟨n, n, 0, 0⟩ = some (e, s1) ∧ s1.fe = 4) (hf : n ≤ 50 ∨ 10 ≤ f) : ∀ j i : Nat, i + j = n → i ≤ 50 → ∃ e s1, rowF U (f + 10 * j) 0 ⟨i, i, 0, 0⟩ = some (e, s1) ∧ s1.fe = 4
  | 0, i, hij, h5 => by
    obtain rfl : i = n := by omega
    exact h h5
  | j + 1, i, hij, h5 => by
    obtain ⟨o1, o2⟩ := ho i (by omega)
    by_cases h50 : i = 50
    · obtain ⟨s1, q1, q2⟩ := wrap_no (U := U) (f := f + 10 * j) (i := (i : Int)) (by omega) o1 o2
      exact ⟨_, s1, q1, q2⟩
    · obtain ⟨e, s1, q1, q2⟩ := wraps_bad ho h hf j (i + 1) (by omega) (by omega)
      have hne : s1.fe ≠ 0 := by rw [q2]; decide
      have hcl := (closes_bad (T := U) (x := [41]) hne).1
      have := wrap_step (U := U) (f := f + 10 * j) (i := (i : Int)) (e := e) (s1 := s1) (by omega) (by omega) o1 o2 (by simpa using q1) (.inl (by rw [hcl]; exact hne))
      exact ⟨e, _, this, by rw [hcl]; exact q2⟩
end
theorem parens_pure {s : Bs} {l m : List Tok} (hl : lexS s = .inr l) (hlen : l.length ≤ 501) {n : Nat} (hn : n ≤ 60) (hm : lexS (wrapsB n s) = .inr m) {e1 e2 : Ex} {s1 s2 : St}
    (h1 : rowF l 800000000 0 ⟨0, 0, 0, 0⟩ = some (e1, s1)) (ok1 : s1.fe = 0) (at1 : s1.at_ = (l.length : Int) - 1) (h2 : rowF l 800000000 0 ⟨0, n, 0, 0⟩ = some (e2, s2)) :
    ∃ f e3 s3, f ≤ 900000000 ∧ rowF m f 0 ⟨0, 0, 0, 0⟩ = some (e3, s3) ∧ ((50 < n ∨ s2.fe ≠ 0) ∧ s3.fe = 4 ∨ ¬ (50 < n ∨ s2.fe ≠ 0) ∧ s3.fe = 0 ∧ s3.at_ = (m.length : Int) - 1 ∧ sameE e3 e1 = true) := by
  obtain ⟨b, e, rfl, he, hw⟩ := lexS_wraps hl
  obtain ⟨m', hm', hk⟩ := hw n
  rw [hm] at hm'
  cases hm'
  simp only [List.length_append, List.length_cons, List.length_nil] at hlen at1
  have hml : m.length = n + (b.length + (n + 1)) := by
    have := congrArg List.length hk
    simpa using this
  have kO : ∀ i : Nat, i < n → (tokAt m (i : Int)).key = (4, [40], 0) := fun i hi => tok_key (by
    rw [hk, List.getElem?_append_left (by simpa using hi), List.getElem?_replicate, if_pos hi])
  have kB : ∀ (a : Int) , 0 ≤ a → a < (b.length : Int) → (tokAt m (a + n)).key = (tokAt (b ++ [e]) a).key := fun a h0 ha => by
    have e1 : (tokAt (b ++ [e]) a).key = (b.map Tok.key)[a.toNat]'(by simp; omega) := tok_key' h0 (by
      rw [List.map_append, List.getElem?_append_left (by simp; omega), List.getElem?_eq_getElem])
    rw [e1]
    refine tok_key' (by omega) ?_
    have ht : (a + (n : Int)).toNat = n + a.toNat := by omega
    rw [hk, ht, List.getElem?_append_right (by simp), List.length_replicate, Nat.add_sub_cancel_left, List.getElem?_append_left (by simp; omega), List.getElem?_eq_getElem]
  have kC : ∀ i : Nat, i < n → (tokAt m ((b.length + n + i : Nat) : Int)).key = (4, [41], 0) := fun i hi => tok_key (by
    rw [hk, List.getElem?_append_right (by simp; omega), List.length_replicate, List.getElem?_append_right (by simp; omega), List.length_map, List.getElem?_append_left (by simp; omega), List.getElem?_replicate, if_pos (by omega)])
  have kE : (tokAt m ((b.length + n + n : Nat) : Int)).key = (0, [], 0) := tok_key (by
    have q1 : n ≤ b.length + n + n := by omega
    have q2 : b.length ≤ b.length + n + n - n := by omega
    have q3 : n ≤ b.length + n + n - n - b.length := by omega
    rw [hk, List.getElem?_append_right (by simp), List.length_replicate, List.getElem?_append_right (by simp), List.length_map, List.getElem?_append_right (by simp), List.length_replicate]
    have : b.length + n + n - n - b.length - n = 0 := by omega
    rw [this]; rfl)
  have kL : (tokAt (b ++ [e]) (b.length : Int)).key = (0, [], 0) := tok_key (by
    rw [List.map_append, List.getElem?_append_right (by simp)]; simp [he])
  have c : Tri (b ++ [e]) m n b.length := by
    refine ⟨kB, (key_kind kL).1, ?_, by omega⟩
    rcases Nat.eq_zero_or_pos n with hz | hz
    · subst hz
      exact .inl (key_kind kE).1
    · have := key_kind (kC 0 hz)
      exact .inr this
  have oO := fun i hi => key_kind (kO i hi)
  have oC := fun i hi => key_kind (kC i hi)
  obtain ⟨x2, x3, r2, r3, a, a0, aL, q1, hh⟩ := (All.of (d := (n : Int)) c (by omega) (by omega) 800000000).row 0 0 0 (e1, s1) (by omega) (by omega) (by omega) (by omega) h1 ok1
  have hz : (0 : Int) + n = n := by omega
  simp only [hz] at r2 r3 hh
  rw [h2] at r2
  cases r2
  have ha : a = (b.length : Int) := by
    have q1' : s1 = ⟨a, 0, 0, 0⟩ := q1
    have : s1.at_ = a := by rw [q1']
    rw [this] at at1; omega
  subst ha
  by_cases h5 : 50 < n
  · obtain ⟨e3, s3, t1, t2⟩ := wraps_bad (U := m) (n := n) (f := 800000000) oO (fun h => absurd h5 (by omega)) (.inr (by omega)) n 0 (by omega) (by omega)
    exact ⟨_, e3, s3, by omega, t1, .inl ⟨.inl h5, t2⟩⟩
  · rcases hh with ⟨t2, t3, t⟩ | ⟨t2, t3⟩
    · have hx : x3 = (x3.1, ⟨((b.length + n : Nat) : Int), n, 0, 0⟩) := by
        rw [Prod.ext_iff]
        refine ⟨rfl, t3.trans ?_⟩
        congr 1
      rw [hx] at r3
      have := wraps_good (U := m) (n := n) (L := b.length) (by omega) (by omega) oO oC (key_kind kE).1 r3 n 0 (by omega)
      refine ⟨_, _, _, by omega, this, .inr ⟨?_, rfl, ?_, t⟩⟩
      · simp only at t2
        rw [t2]
        rintro (h | h)
        · exact h5 h
        · exact h rfl
      · simp only [hml]; omega
    · obtain ⟨e3, s3, w1, w2⟩ := wraps_bad (U := m) (n := n) (f := 800000000) oO (fun _ => ⟨x3.1, x3.2, r3, t3⟩) (.inr (by omega)) n 0 (by omega) (by omega)
      refine ⟨_, e3, s3, by omega, w1, .inl ⟨.inr ?_, w2⟩⟩
      simp only at t2
      rw [t2]; decide
end Go.Proofs.Ytnjoomfeddamcaa

