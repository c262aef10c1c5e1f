/-
  Texts of one proof, laid together: Pc Pd T2 T3 T4 T5.
-/
import Derived.Test.YtghmbpmaafnodaaGreatDoorML
import Derived.Test.YtghmbpmaafnodaaGreatDoorMH
import Derived.Test.YtghmbpmaafnodaaGreatDoorMK
set_option linter.unusedVariables false
set_option linter.unusedSimpArgs false
namespace Go.Proofs.YtghmbpmaafnodaaGreatDoor
open Go.Ev
def Gd (o a0 : Int) (m : Nat) (e : Ex) (a1 : Int) : Prop := (wE e : Int) ≤ 60 * (a1 - a0) ∧ ∃ d : Nat, o + d ≤ 50 ∧ WX d m e
theorem Gd.low {o a0 a1 : Int} {m m' : Nat} {e : Ex} (h : Gd o a0 m e a1) (hm : m' ≤ m) : Gd o a0 m' e a1 := ⟨h.1, h.2.imp fun _ h => ⟨h.1, h.2.low hm⟩⟩
theorem Gd.wide {o a0 a1 b0 b1 : Int} {m : Nat} {e : Ex} (h : Gd o a0 m e a1) (h0 : b0 ≤ a0) (h1 : a1 ≤ b1) : Gd o b0 m e b1 := ⟨by have := h.1; omega, h.2⟩
theorem wE_0 {a : Ea} (hn : a.name.length ≤ 8) (ho : a.ofn = []) : (wE (.mk a []) : Int) ≤ 60 := by simp [wE, wL, ho]; omega
theorem wE_0' {a : Ea} (hn : a.ofn.length ≤ 8) (ho : a.name = []) : (wE (.mk a []) : Int) ≤ 60 := by simp [wE, wL, ho]; omega
theorem wE_1 {a : Ea} {e : Ex} (hn : a.name.length + a.ofn.length ≤ 8) : (wE (.mk a [e]) : Int) ≤ 60 + wE e := by simp [wE, wL]; omega
theorem wE_2 {a : Ea} {e f : Ex} (hn : a.name.length + a.ofn.length ≤ 8) : (wE (.mk a [e, f]) : Int) ≤ 60 + wE e + wE f := by simp [wE, wL]; omega
theorem wE_l {a : Ea} {l : List Ex} (hn : a.name.length + a.ofn.length ≤ 8) : (wE (.mk a l) : Int) ≤ 60 + wL l := by simp [wE]; omega
structure PrAll (T : List Tok) (E : Int) (n : Nat) : Prop where
 expr : ∀ lev s p, lev ≤ 5 → Inn E s → exprR T n lev s = some p → p.2.fe = 0 → Fw E s p.2 1 ∧ Gd s.opn s.at_ (lev + 1) p.1 p.2.at_
 exprL : ∀ lev e a0 s p, lev ≤ 4 → Inn E s → (s.fe = 0 → Gd s.opn a0 (lev + 1) e s.at_) → exprRL T n lev e s = some p → p.2.fe = 0 → Fw E s p.2 0 ∧ Gd s.opn a0 (lev + 1) p.1 p.2.at_
 unary : ∀ s p, Inn E s → unaryR T n s = some p → p.2.fe = 0 → Fw E s p.2 1 ∧ Gd s.opn s.at_ 6 p.1 p.2.at_
 sign : ∀ k s p, k = 12 ∨ k = 13 → Inn E s → signR T n k s = some p → p.2.fe = 0 → Fw E s p.2 1 ∧ Gd s.opn s.at_ 6 p.1 p.2.at_
 behind : ∀ e a0 s p, Inn E s → (s.fe = 0 → Gd s.opn a0 7 e s.at_) → behindR T n e s = some p → p.2.fe = 0 → Fw E s p.2 0 ∧ Gd s.opn a0 7 p.1 p.2.at_
 inner : ∀ s p, Inn E s → innerR T n s = some p → p.2.fe = 0 → Fw E s p.2 1 ∧ Gd (s.opn + 1) s.at_ 0 p.1 p.2.at_
 first : ∀ s p, Inn E s → firstR T n s = some p → p.2.fe = 0 → Fw E s p.2 1 ∧ Gd s.opn s.at_ 7 p.1 p.2.at_
 fresh : ∀ pos s p, Inn E s → freshR T n pos s = some p → p.2.fe = 0 → Fw E s p.2 1 ∧ Gd s.opn (s.at_ - 1) 7 p.1 p.2.at_
 args : ∀ s p, Inn E s → argsR T n s = some p → p.2.fe = 0 → Fw E s p.2 1 ∧ (wL p.1 : Int) ≤ 60 * (p.2.at_ - s.at_) ∧ ∃ d : Nat, s.opn + 1 + d ≤ 50 ∧ ∀ e ∈ p.1, WX d 0 e
 argsL : ∀ l a0 s p, Inn E s → 1 ≤ s.opn → (s.fe = 0 → (wL l : Int) ≤ 60 * (s.at_ - a0) ∧ ∃ d : Nat, s.opn + d ≤ 50 ∧ ∀ e ∈ l, WX d 0 e) → argsRL T n l s = some p → p.2.fe = 0 → (s.fe = 0 ∧ p.2.opn = s.opn - 1 ∧ s.at_ + 1 ≤ p.2.at_ ∧ p.2.at_ ≤ E) ∧ (wL p.1 : Int) ≤ 60 * (p.2.at_ - a0) ∧ ∃ d : Nat, s.opn + d ≤ 50 ∧ ∀ e ∈ p.1, WX d 0 e
theorem bindP {α β : Type} {x : Option α} {f : α → Option β} {b : β} (h : x.bind f = some b) : ∃ a, x = some a ∧ f a = some b := Option.bind_eq_some_iff.1 h
theorem levL_mem {x : Bs} : ∀ l : List (Bs × Int), levL x l ≠ 0 → ∃ k, (x, k) ∈ l ∧ levL x l = k
 | [], h => absurd rfl h
 | (y, k) :: r, h => by
  rw [levL] at h ⊢
  cases hy : y == x with
  | true =>
   obtain rfl : y = x := by simpa using hy
   rw [cond_true]; exact ⟨k, List.mem_cons_self, rfl⟩
  | false =>
   rw [hy, cond_false] at h
   rw [cond_false]
   obtain ⟨k, h1, h2⟩ := levL_mem r h
   exact ⟨k, List.mem_cons_of_mem _ h1, h2⟩
def lvlOk (lev : Nat) : Bool := (lvls[lev]?.getD []).all fun p => decide (14 ≤ p.2) && decide (p.2 ≤ 24) && lvK p.2 == lev + 1
theorem lvl_all : (List.range 5).all lvlOk = true := by decide +kernel
theorem levR_ok {lev : Nat} (hl : lev ≤ 4) {t : Tok} (h : levR lev t ≠ 0) : t.kind = 4 ∧ 14 ≤ levR lev t ∧ levR lev t ≤ 24 ∧ lvK (levR lev t) = lev + 1 ∧ (t.text, levR lev t) ∈ lvls[lev]?.getD [] := by
 unfold levR at h ⊢
 cases hk : (t.kind != 4) with
 | true => rw [hk, cond_true] at h; exact absurd rfl h
 | false =>
  rw [hk, cond_false] at h
  rw [cond_false]
  obtain ⟨k, h1, h2⟩ := levL_mem _ h
  have := List.all_eq_true.1 (List.all_eq_true.1 lvl_all lev (List.mem_range.2 (by omega))) _ h1
  simp only [Bool.and_eq_true, decide_eq_true_eq, beq_iff_eq] at this
  rw [h2]
  exact ⟨by simpa using hk, this.1.1, this.1.2, this.2, h1⟩
theorem both_dep {o : Int} {d d' : Nat} (h : o + d ≤ 50) (h' : o + d' ≤ 50) : o + (max d d' : Nat) ≤ 50 := by omega
theorem pr_all {T : List Tok} {E : Int} (hT : Good T E) : ∀ n, PrAll T E n
 | 0 => by
  constructor <;> intros <;> rename_i h _ <;> first | cases h | skip
 | n + 1 => by
  have ih := pr_all hT n
  refine ⟨?_, ?_, ?_, ?_, ?_, ?_, ?_, ?_, ?_, ?_⟩
  ·intro lev s p hl hi h hp
   rw [exprR] at h
   split at h
   ·rename_i h5; subst h5; exact ih.unary s p hi h hp
   ·obtain ⟨q, g1, g2⟩ := bindP h
    have h1 := fun hq => ih.expr (lev + 1) s q (by omega) hi g1 hq
    obtain ⟨k1, k2⟩ := ih.exprL lev q.1 s.at_ q.2 p (by omega) (fun hq => (h1 hq).1.in (hi (h1 hq).1.f) (by omega)) (fun hq => by rw [(h1 hq).1.o]; exact (h1 hq).2.low (by omega)) g2 hp
    have h1 := h1 k1.f
    exact ⟨(h1.1.trans k1).less (by omega), by rw [h1.1.o] at k2; exact k2⟩
  ·intro lev e a0 s p hl hi he h hp
   rw [exprRL] at h
   cases hc : (s.fe == 0 && levR lev (tokAt T s.at_) != 0) with
   | false =>
    rw [hc, cond_false] at h
    cases h
    exact ⟨.refl (hi hp) hp, he hp⟩
   | true =>
    rw [hc, cond_true] at h
    simp only [Bool.and_eq_true, beq_iff_eq, bne_iff_ne, ne_eq] at hc
    obtain ⟨hf, hlv⟩ := hc
    obtain ⟨r1, r2, r3, r4, -⟩ := levR_ok hl hlv
    have hg := (go_ok hT (hi hf) hf (by omega)).2
    have hig := hg.in (hi hf) (by omega)
    obtain ⟨q, g1, g2⟩ := bindP h
    have h1 := fun hq => ih.expr (lev + 1) (goS s) q (by omega) (fun _ => hig) g1 hq
    have key : ∀ hq : q.2.fe = 0, Gd q.2.opn a0 (lev + 1) (.mk { kind := levR lev (tokAt T s.at_), pos := (tokAt T s.at_).pos } [e, q.1]) q.2.at_ := by
     intro hq
     obtain ⟨j1, j2, d, j3, j4⟩ := h1 hq
     obtain ⟨i2, d', i3, i4⟩ := he hf
     have := wE_2 (a := { kind := levR lev (tokAt T s.at_), pos := (tokAt T s.at_).pos }) (e := e) (f := q.1) (by simp)
     have ga := hg.a
     have go := hg.o
     have jo := j1.o
     refine ⟨by omega, max d d', by rw [jo, go]; exact both_dep (by rw [← go]; exact j3) i3, ?_⟩
     refine .bin (by omega) r2 r3 ?_ ?_
     ·rw [r4]; exact i4.more (by omega)
     ·rw [r4]; exact j4.more (by omega)
    obtain ⟨k1, k2⟩ := ih.exprL lev _ a0 q.2 p hl (fun hq => (h1 hq).1.in hig (by omega)) key g2 hp
    have h1 := h1 k1.f
    refine ⟨((hg.trans h1.1).trans k1).less (by omega), ?_⟩
    rw [h1.1.o, hg.o] at k2; exact k2
  ·intro s p hi h hp
   rw [unaryR] at h
   cases hx : isR T s [45] with
   | true => rw [hx, cond_true] at h; exact ih.sign 12 s p (.inl rfl) hi h hp
   | false =>
    rw [hx, cond_false] at h
    cases hy : isR T s [33] with
    | true => rw [hy, cond_true] at h; exact ih.sign 13 s p (.inr rfl) hi h hp
    | false =>
     rw [hy, cond_false] at h
     obtain ⟨q, g1, g2⟩ := bindP h
     have h1 := fun hq => ih.first s q hi g1 hq
     obtain ⟨k1, k2⟩ := ih.behind q.1 s.at_ q.2 p (fun hq => (h1 hq).1.in (hi (h1 hq).1.f) (by omega)) (fun hq => by rw [(h1 hq).1.o]; exact (h1 hq).2) g2 hp
     have h1 := h1 k1.f
     exact ⟨(h1.1.trans k1).less (by omega), by rw [h1.1.o] at k2; exact k2.low (by omega)⟩
  ·intro k s p hk hi h hp
   rw [signR] at h
   obtain ⟨q, g1, g2⟩ := bindP h
   cases g2
   have hq : q.2.fe = 0 := hp
   have hs0 : (opensR T (tokAt T s.at_).text s).fe = 0 → Inn E (opensR T (tokAt T s.at_).text s) := fun hf _ => (opens_ok hT hi hf).2.2.2.2.1
   obtain ⟨j1, j2, d, j3, j4⟩ := ih.expr 5 _ q (by omega) (fun hf => hs0 hf hf) g1 hq
   obtain ⟨o1, o2, o3, o4, o5, o6⟩ := opens_ok hT hi j1.f
   have hi2 := j1.in o5 (by omega)
   have ho := outS_eq hi2
   simp only [ho] at hp ⊢
   have ja := j1.a
   have jo := j1.o
   have jb := j1.b
   have := wE_1 (a := { kind := k, pos := (tokAt T s.at_).pos }) (e := q.1) (by simp)
   refine ⟨⟨o2, hp, by (try simp only); omega, by (try simp only); omega, jb⟩, by (try simp only); omega, d + 1, by omega, .sign (by omega) hk j4⟩
  ·intro e a0 s p hi he h hp
   rw [behindR] at h
   cases hx : isR T s [46] with
   | true =>
    rw [hx, cond_true] at h
    have hf := (isR_kind hx).1
    have hg := isR_go hT (hi hf) hx
    have hig := hg.in (hi hf) (by omega)
    have hn := fun hq => name_ok hT (s := goS s) (fun _ => hig) hq
    obtain ⟨i2, d', i3, i4⟩ := he hf
    obtain ⟨k1, k2⟩ := ih.behind _ a0 _ p (fun hq => (hn hq).2.in hig (by omega)) (fun hq => by
     obtain ⟨n1, n2⟩ := hn hq
     have := wE_1 (a := { kind := 5, name := (nameR T (goS s)).1, pos := (tokAt T s.at_).pos }) (e := e) (by have := name_len n1; simp; omega)
     have na := n2.a
     have ga := hg.a
     refine ⟨by omega, d', by rw [n2.o, hg.o]; exact i3, .field (by omega) n1 i4⟩) h hp
    have n2 := (hn k1.f).2
    refine ⟨((hg.trans n2).trans k1).less (by omega), ?_⟩
    rw [n2.o, hg.o] at k2; exact k2
   | false =>
    rw [hx, cond_false] at h
    cases hy : isR T s [91] with
    | true =>
     rw [hy, cond_true] at h
     have hf := (isR_kind hy).1
     obtain ⟨q, g1, g2⟩ := bindP h
     obtain ⟨i2, d', i3, i4⟩ := he hf
     have h1 := fun hq => ih.expr 0 _ q (by omega) (fun hf => (opens_ok hT hi hf).2.2.2.2.1) g1 hq
     have hfe : (closesR T [93] q.2).fe = 0 → q.2.fe = 0 := fun hh => by
      have h' : (takeR T [93] q.2).fe = 0 := hh
      unfold takeR at h'
      cases hz : isR T q.2 [93] with
      | true => exact (isR_kind hz).1
      | false => rw [hz, cond_false] at h'; exact absurd h' (fail_bad (by decide))
     have key : ∀ hh : (closesR T [93] q.2).fe = 0, Fw E s (closesR T [93] q.2) 3 ∧ Gd s.opn a0 7 (.mk { kind := 6, pos := (tokAt T s.at_).pos } [e, q.1]) (closesR T [93] q.2).at_ := by
      intro hh
      obtain ⟨j1, j2, d, j3, j4⟩ := h1 (hfe hh)
      obtain ⟨o1, o2, o3, o4, o5, o6⟩ := opens_ok hT hi j1.f
      have hc := closes_ok hT (by omega) o3.symm o4.symm hf o5 j1 hh
      have ca := hc.a
      have jb : q.2.at_ + 1 ≤ (closesR T [93] q.2).at_ := by
       have h' : (takeR T [93] q.2).fe = 0 := hh
       have := (take_ok hT (fun _ => j1.in o5 (by omega)) h').2.2.a
       exact this
      have := wE_2 (a := { kind := 6, pos := (tokAt T s.at_).pos }) (e := e) (f := q.1) (by simp)
      refine ⟨hc.less (by omega), by omega, max d' (d + 1), both_dep i3 (by omega), ?_⟩
      obtain ⟨z, hz⟩ : ∃ z, max d' (d + 1) = z + 1 := ⟨max d' (d + 1) - 1, by omega⟩
      rw [hz]
      exact .item (by omega) (i4.more (by omega)) ((j4.low (by omega)).more (by omega))
     obtain ⟨k1, k2⟩ := ih.behind _ a0 _ p (fun hh => (key hh).1.in (hi hf) (by omega)) (fun hh => by rw [(key hh).1.o]; exact (key hh).2) g2 hp
     have k3 := (key k1.f).1
     refine ⟨(k3.trans k1).less (by omega), ?_⟩
     rw [k3.o] at k2; exact k2
    | false =>
     rw [hy, cond_false] at h
     cases h
     exact ⟨.refl (hi hp) hp, he hp⟩
  ·intro s p hi h hp
   rw [innerR] at h
   obtain ⟨q, g1, g2⟩ := bindP h
   cases g2
   have hq : q.2.fe = 0 := by
    have h' : (takeR T [41] q.2).fe = 0 := hp
    unfold takeR at h'
    cases hz : isR T q.2 [41] with
    | true => exact (isR_kind hz).1
    | false => rw [hz, cond_false] at h'; exact absurd h' (fail_bad (by decide))
   obtain ⟨j1, j2, d, j3, j4⟩ := ih.expr 0 _ q (by omega) (fun hf => (opens_ok hT hi hf).2.2.2.2.1) g1 hq
   obtain ⟨o1, o2, o3, o4, o5, o6⟩ := opens_ok hT hi j1.f
   have hc := closes_ok hT (by omega) o3.symm o4.symm o2 o5 j1 hp
   have ca := hc.a
   have jb : q.2.at_ + 1 ≤ (closesR T [41] q.2).at_ := by
    have h' : (takeR T [41] q.2).fe = 0 := hp
    exact (take_ok hT (fun _ => j1.in o5 (by omega)) h').2.2.a
   refine ⟨hc.less (by omega), by (try simp only); omega, d, by rw [← o3]; exact j3, j4.low (by omega)⟩
  ·intro s p hi h hp
   rw [firstR] at h
   cases h1 : (s.fe == 0 && (tokAt T s.at_).kind == 2) with
   | true =>
    rw [h1, cond_true] at h
    cases h
    simp only [Bool.and_eq_true, beq_iff_eq] at h1
    have hg := (go_ok hT (hi h1.1) h1.1 (by omega)).2
    have hn := tok_int hT h1.2
    have ga := hg.a
    have := wE_0 (a := { kind := 1, n := (tokAt T s.at_).n, pos := (tokAt T s.at_).pos }) (by simp) rfl
    have hd := (hi h1.1).d
    exact ⟨hg, by (try simp only); omega, 0, by simpa using hd, .int (by omega) hn.1 hn.2⟩
   | false =>
    rw [h1, cond_false] at h
    cases h2 : (isR T s [116, 114, 117, 101] || isR T s [102, 97, 108, 115, 101]) with
    | true =>
     rw [h2, cond_true] at h
     cases h
     have hg : Fw E s (goS s) 1 := by
      rcases Bool.or_eq_true_iff.1 h2 with hx | hx <;> exact isR_go hT (hi (isR_kind hx).1) hx
     have ga := hg.a
     have hd := (hi hg.f).d
     have := wE_0 (a := { kind := 2, n := bif (tokAt T s.at_).text == [116, 114, 117, 101] then 1 else 0, pos := (tokAt T s.at_).pos }) (by simp) rfl
     refine ⟨hg, by (try simp only); omega, 0, by simpa using hd, .bool (by omega) ?_⟩
     cases (tokAt T s.at_).text == [116, 114, 117, 101]
     ·exact .inl rfl
     ·exact .inr rfl
    | false =>
     rw [h2, cond_false] at h
     cases h3 : isR T s [110, 117, 108, 108] with
     | true =>
      rw [h3, cond_true] at h
      cases h
      have hf := (isR_kind h3).1
      have hg := isR_go hT (hi hf) h3
      obtain ⟨o1, o2⟩ := of_ok hT (hg.inn hi (by omega)) hp
      have ga := hg.a
      have oa := o2.a
      have hd := (hi hf).d
      have := wE_0' (a := { kind := 3, ofn := (ofR T (goS s)).1.1, ofd := (ofR T (goS s)).1.2, pos := (tokAt T s.at_).pos }) (of_len o1) rfl
      exact ⟨(hg.trans o2).less (by omega), by (try simp only); omega, 0, by simpa using hd, .null (by omega) o1⟩
     | false =>
      rw [h3, cond_false] at h
      cases h4 : isR T s [110, 101, 119] with
      | true =>
       rw [h4, cond_true] at h
       have hf := (isR_kind h4).1
       have hg := isR_go hT (hi hf) h4
       obtain ⟨k1, k2⟩ := ih.fresh _ _ p (hg.inn hi (by omega)) h hp
       have ga := hg.a
       have ge := (go_ok hT (hi hf) hf (by rw [(isR_kind h4).2.1]; exact kw_ne _)).1
       rw [hg.o] at k2
       exact ⟨(hg.trans k1).less (by omega), k2.wide (by rw [ge]; simp) (Int.le_refl _)⟩
      | false =>
       rw [h4, cond_false] at h
       cases h5 : isR T s [108, 101, 110] with
       | true =>
        rw [h5, cond_true] at h
        have hf := (isR_kind h5).1
        have hg := isR_go hT (hi hf) h5
        obtain ⟨q, g1, g2⟩ := bindP h
        cases g2
        obtain ⟨j1, j2, d, j3, j4⟩ := ih.inner _ q (hg.inn hi (by omega)) g1 hp
        have ga := hg.a
        have go := hg.o
        have := wE_1 (a := { kind := 10, pos := (tokAt T s.at_).pos }) (e := q.1) (by simp)
        exact ⟨(hg.trans j1).less (by omega), by (try simp only); omega, d + 1, by omega, .len (by omega) j4⟩
       | false =>
        rw [h5, cond_false] at h
        cases h6 : isR T s [114, 101, 97, 100] with
        | true =>
         rw [h6, cond_true] at h
         cases h
         have hf := (isR_kind h6).1
         have hg := isR_go hT (hi hf) h6
         have hq : (opensR T [40] (goS s)).fe = 0 := by
          have h' : (takeR T [41] (opensR T [40] (goS s))).fe = 0 := hp
          unfold takeR at h'
          cases hz : isR T (opensR T [40] (goS s)) [41] with
          | true => exact (isR_kind hz).1
          | false => rw [hz, cond_false] at h'; exact absurd h' (fail_bad (by decide))
         obtain ⟨o1, o2, o3, o4, o5, o6⟩ := opens_ok hT (hg.inn hi (by omega)) hq
         have hc := closes_ok hT (k := 0) (by omega) o3.symm o4.symm o2 o5 (.refl o5 hq) hp
         have ga := hg.a
         have go := hg.o
         have ca := hc.a
         have := wE_0 (a := { kind := 11, pos := (tokAt T s.at_).pos }) (by simp) rfl
         exact ⟨(hg.trans hc).less (by omega), by (try simp only); omega, 1, by omega, .read (by omega)⟩
        | false =>
         rw [h6, cond_false] at h
         cases h7 : isR T s [40] with
         | true =>
          rw [h7, cond_true] at h
          obtain ⟨j1, j2, d, j3, j4⟩ := ih.inner s p hi h hp
          exact ⟨j1, j2, d + 1, by omega, j4.up (by omega)⟩
         | false =>
          rw [h7, cond_false] at h
          have hd : s.fe = 0 → s.opn ≤ 50 := fun hf => (hi hf).d
          cases h8 : isR T (nameR T s).2 [40] with
          | true =>
           rw [h8, cond_true] at h
           obtain ⟨q, g1, g2⟩ := bindP h
           cases g2
           obtain ⟨n1, n2⟩ := name_ok hT hi (isR_kind h8).1
           obtain ⟨k1, k2, d, k3, k4⟩ := ih.args _ q (n2.inn hi (by omega)) g1 hp
           have na := n2.a
           have no := n2.o
           have := wE_l (a := { kind := 7, name := (nameR T s).1, pos := (tokAt T s.at_).pos }) (l := q.1) (by have := name_len n1; simp; omega)
           exact ⟨(n2.trans k1).less (by omega), by (try simp only); omega, d + 1, by omega, .call (by omega) n1 k4⟩
          | false =>
           rw [h8, cond_false] at h
           cases h
           obtain ⟨n1, n2⟩ := name_ok hT hi hp
           have na := n2.a
           have := wE_0 (a := { kind := 4, name := (nameR T s).1, pos := (tokAt T s.at_).pos }) (name_len n1) rfl
           exact ⟨n2, by (try simp only); omega, 0, by simpa using hd n2.f, .var (by omega) n1⟩
  ·intro pos s p hi h hp
   rw [freshR] at h
   cases hx : isR T s [91] with
   | true =>
    rw [hx, cond_true] at h
    obtain ⟨q, g1, g2⟩ := bindP h
    cases g2
    have hf := (isR_kind hx).1
    have hg := isR_go hT (hi hf) hx
    have hig := hg.in (hi hf) (by omega)
    have ht := fun hq : (takeR T [93] (ofR T (goS s)).2).fe = 0 => by
     have h2 : (ofR T (goS s)).2.fe = 0 := by
      unfold takeR at hq
      cases hz : isR T (ofR T (goS s)).2 [93] with
      | true => exact (isR_kind hz).1
      | false => rw [hz, cond_false] at hq; exact absurd hq (fail_bad (by decide))
     have o := of_ok hT (fun _ => hig) h2
     exact And.intro o (take_ok hT (fun _ => o.2.in hig (by omega)) hq).2.2
    obtain ⟨j1, j2, d, j3, j4⟩ := ih.inner _ q (fun hq => ((ht hq).1.2.trans (ht hq).2).in hig (by omega)) g1 hp
    obtain ⟨⟨o1, o2⟩, o3⟩ := ht j1.f
    have ga := hg.a
    have go := hg.o
    have oa := o2.a
    have oo := o2.o
    have ta := o3.a
    have to := o3.o
    have := wE_1 (a := { kind := 9, ofn := (ofR T (goS s)).1.1, ofd := (ofR T (goS s)).1.2, pos := pos }) (e := q.1) (by have := of_len o1; simp; omega)
    exact ⟨(((hg.trans o2).trans o3).trans j1).less (by omega), by (try simp only); omega, d + 1, by omega, .make (by omega) o1 j4⟩
   | false =>
    rw [hx, cond_false] at h
    cases h
    obtain ⟨n1, n2⟩ := name_ok hT hi hp
    have na := n2.a
    have hd := (hi n2.f).d
    have := wE_0' (a := { kind := 8, ofn := (nameR T s).1, pos := pos }) (name_len n1) rfl
    exact ⟨n2, by (try simp only); omega, 0, by simpa using hd, .new (by omega) n1⟩
  ·intro s p hi h hp
   rw [argsR] at h
   cases hx : isR T (opensR T [40] s) [41] with
   | true =>
    rw [hx, cond_true] at h
    cases h
    obtain ⟨o1, o2, o3, o4, o5, o6⟩ := opens_ok hT hi (isR_kind hx).1
    have hc := closes_ok hT (k := 0) (by omega) o3.symm o4.symm o2 o5 (.refl o5 (isR_kind hx).1) hp
    have ca := hc.a
    refine ⟨hc.less (by omega), by simp only [wL]; omega, 0, by omega, fun e he => by cases he⟩
   | false =>
    rw [hx, cond_false] at h
    obtain ⟨q, g1, g2⟩ := bindP h
    have h1 := fun hq => ih.expr 0 _ q (by omega) (fun hf => (opens_ok hT hi hf).2.2.2.2.1) g1 hq
    have h0 := fun hq => opens_ok hT hi (h1 hq).1.f
    by_cases hq : q.2.fe = 0
    ·obtain ⟨j1, j2, d, j3, j4⟩ := h1 hq
     obtain ⟨o1, o2, o3, o4, o5, o6⟩ := h0 hq
     have jo := j1.o
     have ja := j1.a
     have hc := (hi o2).c
     obtain ⟨⟨k1, k2, k3, k4⟩, k5, d', k6, k7⟩ := ih.argsL [q.1] s.at_ q.2 p (fun _ => j1.in o5 (by omega)) (by omega) (fun _ => ⟨by simp only [wL]; omega, d, by omega, fun e he => by
      simp only [List.mem_cons, List.not_mem_nil, or_false] at he
      subst he; exact j4.low (by omega)⟩) g2 hp
     exact ⟨⟨o2, hp, by omega, by omega, k4⟩, k5, d', by omega, k7⟩
    ·exfalso
     cases n with
     | zero => rw [argsRL] at g2; cases g2
     | succ n =>
      rw [argsRL, isR_failed hq, cond_false] at g2
      cases g2
      have h' : (takeR T [41] q.2).fe = 0 := hp
      unfold takeR at h'
      rw [isR_failed hq, cond_false] at h'
      exact absurd h' (fail_bad (by decide))
  ·intro l a0 s p hi hs he h hp
   rw [argsRL] at h
   cases hx : isR T s [44] with
   | true =>
    rw [hx, cond_true] at h
    obtain ⟨q, g1, g2⟩ := bindP h
    have hf := (isR_kind hx).1
    have hg := isR_go hT (hi hf) hx
    have hig := hg.in (hi hf) (by omega)
    have h1 := fun hq => ih.expr 0 _ q (by omega) (fun _ => hig) g1 hq
    by_cases hq : q.2.fe = 0
    ·obtain ⟨j1, j2, d, j3, j4⟩ := h1 hq
     obtain ⟨i2, d', i3, i4⟩ := he hf
     have go := hg.o
     have ga := hg.a
     have jo := j1.o
     have ja := j1.a
     obtain ⟨⟨k1, k2, k3, k4⟩, k5, d2, k6, k7⟩ := ih.argsL (l ++ [q.1]) a0 q.2 p (fun _ => j1.in hig (by omega)) (by omega) (fun _ => ⟨by rw [wL_app]; omega, max d d', both_dep (by omega) (by omega), fun e he => by
      rcases List.mem_append.1 he with he | he
      ·exact (i4 e he).more (by omega)
      ·simp only [List.mem_cons, List.not_mem_nil, or_false] at he
       subst he; exact (j4.low (by omega)).more (by omega)⟩) g2 hp
     exact ⟨⟨hf, by omega, by omega, k4⟩, k5, d2, by omega, k7⟩
    ·exfalso
     cases n with
     | zero => rw [argsRL] at g2; cases g2
     | succ n =>
      rw [argsRL, isR_failed hq, cond_false] at g2
      cases g2
      have h' : (takeR T [41] q.2).fe = 0 := hp
      unfold takeR at h'
      rw [isR_failed hq, cond_false] at h'
      exact absurd h' (fail_bad (by decide))
   | false =>
    rw [hx, cond_false] at h
    cases h
    have h' : (takeR T [41] s).fe = 0 := hp
    obtain ⟨t1, t2, t3⟩ := take_ok hT hi h'
    have hf := t3.f
    obtain ⟨i2, d', i3, i4⟩ := he hf
    have ta := t3.a
    have to := t3.o
    have tb := t3.b
    have hi3 := t3.in (hi hf) (by omega)
    have e : closesR T [41] s = { takeR T [41] s with opn := (takeR T [41] s).opn - 1 } := by unfold closesR; exact outS_eq hi3
    simp only [e] at hp ⊢
    refine ⟨⟨hf, by (try simp only); omega, by (try simp only); omega, tb⟩, by (try simp only); omega, d', i3, i4⟩
end Go.Proofs.YtghmbpmaafnodaaGreatDoor

namespace Go.Proofs.YtghmbpmaafnodaaGreatDoor
open Go.Ev
inductive WS : Nat → Stm → Prop
 | var {d x o z p} : nameB x = true → OfOk o z → WS d (.mk { kind := 1, name := x, ofn := o, ofd := z, pos := p } [] [] [])
 | lets {d x o z p e} : nameB x = true → OfOk o z → WX d 0 e → WS d (.mk { kind := 2, name := x, ofn := o, ofd := z, pos := p } [e] [] [])
 | set {d x p e} : nameB x = true → WX d 0 e → WS d (.mk { kind := 3, name := x, pos := p } [e] [] [])
 | put {d p e f} : e.kind = 5 ∨ e.kind = 6 → WX d 0 e → WX d 0 f → WS d (.mk { kind := 4, pos := p } [e, f] [] [])
 | ifs {d p e b c} : WX (d + 1) 0 e → (∀ s ∈ b, WS d s) → (∀ s ∈ c, WS d s) → WS (d + 1) (.mk { kind := 5, pos := p } [e] b c)
 | while {d p e b} : WX (d + 1) 0 e → (∀ s ∈ b, WS d s) → WS (d + 1) (.mk { kind := 6, pos := p } [e] b [])
 | ret0 {d p} : WS d (.mk { kind := 7, pos := p } [] [] [])
 | ret1 {d p e} : WX d 0 e → WS d (.mk { kind := 7, pos := p } [e] [] [])
 | print {d p e} : WX d 0 e → WS d (.mk { kind := 8, pos := p } [e] [] [])
 | call {d p e} : e.kind = 7 → WX d 0 e → WS d (.mk { kind := 9, pos := p } [e] [] [])
theorem WS.at {d : Nat} {s : Stm} (h : WS d s) (p : Int) : WS d (s.at p) := by
 cases h with
 | var a b => exact .var a b
 | lets a b c => exact .lets a b c
 | set a b => exact .set a b
 | put a b c => exact .put a b c
 | ifs a b c => exact .ifs a b c
 | «while» a b => exact .while a b
 | ret0 => exact .ret0
 | ret1 a => exact .ret1 a
 | print a => exact .print a
 | call a b => exact .call a b
theorem WS.more {d : Nat} {s : Stm} (h : WS d s) : ∀ {d' : Nat}, d ≤ d' → WS d' s := by
 induction h with
 | var a b => intro d' _; exact .var a b
 | lets a b c => intro d' hd; exact .lets a b (c.more hd)
 | set a b => intro d' hd; exact .set a (b.more hd)
 | put a b c => intro d' hd; exact .put a (b.more hd) (c.more hd)
 | ifs a _ _ ih1 ih2 => intro d' hd; obtain ⟨k, rfl⟩ : ∃ k, d' = k + 1 := ⟨d' - 1, by omega⟩; exact .ifs (a.more hd) (fun s hs => ih1 s hs (by omega)) (fun s hs => ih2 s hs (by omega))
 | «while» a _ ih1 => intro d' hd; obtain ⟨k, rfl⟩ : ∃ k, d' = k + 1 := ⟨d' - 1, by omega⟩; exact .while (a.more hd) (fun s hs => ih1 s hs (by omega))
 | ret0 => intro d' _; exact .ret0
 | ret1 a => intro d' hd; exact .ret1 (a.more hd)
 | print a => intro d' hd; exact .print (a.more hd)
 | call a b => intro d' hd; exact .call a (b.more hd)
mutual
def wS : Stm → Nat
 | .mk a es b c => 400 + a.name.length + a.ofn.length + wL es + wSs b + wSs c
def wSs : List Stm → Nat
 | [] => 0
 | e :: r => wS e + wSs r
end
theorem wSs_app : ∀ (l : List Stm) (e : Stm), wSs (l ++ [e]) = wSs l + wS e
 | [], e => by simp [wSs]
 | x :: l, e => by rw [List.cons_append, wSs, wSs_app l e, wSs]; omega
theorem wS_at (s : Stm) (p : Int) : wS (s.at p) = wS s := by cases s; rfl
theorem wS_v {a : Sa} (hn : a.name.length + a.ofn.length ≤ 16) : (wS (.mk a [] [] []) : Int) ≤ 416 := by simp [wS, wL, wSs]; omega
theorem wS_e {a : Sa} {e : Ex} (hn : a.name.length + a.ofn.length ≤ 16) : (wS (.mk a [e] [] []) : Int) ≤ 416 + wE e := by simp [wS, wL, wSs]; omega
theorem wS_ee {a : Sa} {e f : Ex} (hn : a.name.length + a.ofn.length ≤ 16) : (wS (.mk a [e, f] [] []) : Int) ≤ 416 + wE e + wE f := by simp [wS, wL, wSs]; omega
theorem wS_b {a : Sa} {e : Ex} {b c : List Stm} (hn : a.name.length + a.ofn.length ≤ 16) : (wS (.mk a [e] b c) : Int) ≤ 416 + wE e + wSs b + wSs c := by simp [wS, wL]; omega
section
variable {T : List Tok} {E : Int} {s s' s2 : St}
theorem Fw.to {y : St} {k : Int} (hi : Inn E s) (h : y.fe = 0 → Fw E s y k) (hk : 0 ≤ k) : Inn E y := fun hy => (h hy).in (hi (h hy).f) hk
def Ans (T : List Tok) : Prop := ∀ s, ∃ p, exprR T 800000000 0 s = some p
theorem exprQ_ok (hT : Good T E) (hA : Ans T) (hi : Inn E s) (h : (exprQ T s).2.fe = 0) : Fw E s (exprQ T s).2 1 ∧ Gd s.opn s.at_ 0 (exprQ T s).1 (exprQ T s).2.at_ := by
 obtain ⟨p, hp⟩ := hA s
 unfold exprQ at h ⊢
 rw [hp] at h ⊢
 obtain ⟨h1, h2⟩ := (pr_all hT 800000000).expr 0 s p (by omega) hi hp h
 exact ⟨h1, h2.low (by omega)⟩
theorem typed_ok (hT : Good T E) (hi : Inn E s) (h : (typedR T s).2.fe = 0) : nameB (typedR T s).1.1 = true ∧ OfOk (typedR T s).1.2.1 (typedR T s).1.2.2 ∧ Fw E s (typedR T s).2 3 := by
 have h1 := fun hq => name_ok hT hi hq
 have h2 := fun hq => take_ok hT (s := (nameR T s).2) (x := [58]) (Fw.to hi (fun hy => (h1 hy).2) (by omega)) hq
 have h3 := of_ok hT (s := takeR T [58] (nameR T s).2) (Fw.to hi (fun hy => (h1 (h2 hy).2.2.f).2.trans (h2 hy).2.2) (by omega)) h
 have k2 := h2 h3.2.f
 have k1 := h1 k2.2.2.f
 exact ⟨k1.1, h3.1, ((k1.2.trans k2.2.2).trans h3.2).less (by omega)⟩
structure PsAll (T : List Tok) (E : Int) (n : Nat) : Prop where
 block : ∀ s p, Inn E s → blockR T n s = some p → p.2.fe = 0 → Fw E s p.2 2 ∧ (wSs p.1 : Int) ≤ 400 * (p.2.at_ - s.at_ - 2) ∧ ∃ d : Nat, s.opn + (d + 1) ≤ 50 ∧ ∀ x ∈ p.1, WS d x
 loop : ∀ l a0 s p, Inn E s → (s.fe = 0 → (wSs l : Int) ≤ 400 * (s.at_ - a0) ∧ ∃ d : Nat, s.opn + d ≤ 50 ∧ ∀ x ∈ l, WS d x) → loopR T n l s = some p → p.2.fe = 0 → Fw E s p.2 0 ∧ (wSs p.1 : Int) ≤ 400 * (p.2.at_ - a0) ∧ ∃ d : Nat, s.opn + d ≤ 50 ∧ ∀ x ∈ p.1, WS d x
 stmt : ∀ s p, Inn E s → stmtR T n s = some p → p.2.fe = 0 → Fw E s p.2 2 ∧ (wS p.1 : Int) ≤ 400 * (p.2.at_ - s.at_) ∧ ∃ d : Nat, s.opn + d ≤ 50 ∧ WS d p.1
theorem plain_ok (hT : Good T E) (hA : Ans T) (hi : Inn E s) (h : (plainR T s).2.fe = 0) : Fw E s (plainR T s).2 2 ∧ (wS (plainR T s).1 : Int) ≤ 400 * ((plainR T s).2.at_ - s.at_) ∧ ∃ d : Nat, s.opn + d ≤ 50 ∧ WS d (plainR T s).1 := by
 have h1 := fun hq => exprQ_ok hT hA hi hq
 have i1 : Inn E (exprQ T s).2 := Fw.to hi (fun hy => (h1 hy).1) (by omega)
 unfold plainR at h ⊢
 cases hx : isR T (exprQ T s).2 [61] with
 | true =>
  rw [hx, cond_true] at h
  rw [cond_true]
  have hf := (isR_kind hx).1
  obtain ⟨j1, j2, d, j3, j4⟩ := h1 hf
  have h' : (takeR T [59] (exprQ T (eqR T (exprQ T s).1 (exprQ T s).2)).2).fe = 0 := h
  have e1 := fun hq => take_ok hT (s := bif exK (exprQ T s).1 then failS T 2 (exprQ T s).2 else (exprQ T s).2) (x := [61]) (fun hb => by
   cases hk : exK (exprQ T s).1 with
   | true => rw [hk, cond_true] at hb; exact absurd hb (fail_bad (by decide))
   | false => rw [cond_false]; exact i1 hf) hq
  have hK : (eqR T (exprQ T s).1 (exprQ T s).2).fe = 0 → exK (exprQ T s).1 = false ∧ Fw E (exprQ T s).2 (eqR T (exprQ T s).1 (exprQ T s).2) 1 := fun hq => by
   have e2 := (e1 hq).2.2
   cases hk : exK (exprQ T s).1 with
   | true =>
    have := e2.f
    rw [hk, cond_true] at this; exact absurd this (fail_bad (by decide))
   | false =>
    rw [hk, cond_false] at e2
    unfold eqR
    rw [hk, cond_false]
    exact ⟨rfl, e2⟩
  have i2 : Inn E (eqR T (exprQ T s).1 (exprQ T s).2) := fun hq => (hK hq).2.in (i1 hf) (by omega)
  have h2 := fun hq => exprQ_ok hT hA i2 hq
  have i3 : Inn E (exprQ T (eqR T (exprQ T s).1 (exprQ T s).2)).2 := Fw.to i2 (fun hy => (h2 hy).1) (by omega)
  obtain ⟨-, -, t3⟩ := take_ok hT i3 h'
  obtain ⟨k1, k2, d', k3, k4⟩ := h2 t3.f
  obtain ⟨q1, q2⟩ := hK k1.f
  have ja := j1.a
  have jo := j1.o
  have qa := q2.a
  have qo := q2.o
  have ka := k1.a
  have ta := t3.a
  have fw : Fw E s (takeR T [59] (exprQ T (eqR T (exprQ T s).1 (exprQ T s).2)).2) 2 := (((j1.trans q2).trans k1).trans t3).less (by omega)
  simp only [setsR]
  refine ⟨fw, ?_⟩
  cases h4 : (exprQ T s).1.kind == 4 with
  | true =>
   rw [cond_true]
   have h4' : (exprQ T s).1.kind = 4 := by simpa using h4
   have hnm : nameB (exprQ T s).1.name = true := by
    generalize (exprQ T s).1 = e at j4 h4'
    cases j4 with
    | par _ h _ => omega
    | var _ h => exact h
    | bin h0 h1 h2 _ _ => simp only [Ex.kind] at h4'; omega
    | sign _ h1 _ => simp only [Ex.kind] at h4'; omega
    | _ => simp [Ex.kind] at h4'
   have := wS_e (a := { kind := 3, name := (exprQ T s).1.name }) (e := (exprQ T (eqR T (exprQ T s).1 (exprQ T s).2)).1) (by have := name_len hnm; simp; omega)
   exact ⟨by omega, d', by omega, .set hnm k4⟩
  | false =>
   rw [cond_false]
   have h4' : (exprQ T s).1.kind ≠ 4 := by simpa using h4
   have hk : (exprQ T s).1.kind = 5 ∨ (exprQ T s).1.kind = 6 := by
    unfold exK at q1
    simp only [Bool.and_eq_false_iff, bne_eq_false_iff_eq] at q1
    rcases q1 with q | q | q
    ·exact absurd q h4'
    ·exact .inl q
    ·exact .inr q
   have := wS_ee (a := { kind := 4 }) (e := (exprQ T s).1) (f := (exprQ T (eqR T (exprQ T s).1 (exprQ T s).2)).1) (by simp)
   exact ⟨by omega, max d d', both_dep j3 (by omega), .put hk (j4.more (by omega)) (k4.more (by omega))⟩
 | false =>
  rw [hx, cond_false] at h
  rw [cond_false]
  have h' : (takeR T [59] (bif isR T (exprQ T s).2 [59] && (exprQ T s).1.kind != 7 then failS T 2 (exprQ T s).2 else (exprQ T s).2)).fe = 0 := h
  cases hb : isR T (exprQ T s).2 [59] && (exprQ T s).1.kind != 7 with
  | true =>
   rw [hb, cond_true] at h'
   unfold takeR at h'
   rw [isR_failed (fail_bad (by decide)), cond_false, failS_failed (fail_bad (by decide))] at h'
   exact absurd h' (fail_bad (by decide))
  | false =>
   rw [hb, cond_false] at h'
   obtain ⟨t1, t2, t3⟩ := take_ok hT i1 h'
   obtain ⟨j1, j2, d, j3, j4⟩ := h1 t3.f
   rw [t1, Bool.true_and] at hb
   have h7 : (exprQ T s).1.kind = 7 := by simpa using hb
   have ja := j1.a
   have jo := j1.o
   have ta := t3.a
   have := wS_e (a := { kind := 9 }) (e := (exprQ T s).1) (by simp)
   simp only [cond_false]
   exact ⟨(j1.trans t3).less (by omega), by omega, d, j3, .call h7 j4⟩
theorem ps_all (hT : Good T E) (hA : Ans T) : ∀ n, PsAll T E n
 | 0 => by
  constructor <;> intros <;> rename_i h _ <;> first | cases h | skip
 | n + 1 => by
  have ih := ps_all hT hA n
  refine ⟨?_, ?_, ?_⟩
  ·intro s p hi h hp
   rw [blockR] at h
   obtain ⟨q, g1, g2⟩ := bindP h
   cases g2
   have hq : q.2.fe = 0 := by
    have h' : (takeR T [125] q.2).fe = 0 := hp
    unfold takeR at h'
    cases hz : isR T q.2 [125] with
    | true => exact (isR_kind hz).1
    | false => rw [hz, cond_false] at h'; exact absurd h' (fail_bad (by decide))
   obtain ⟨j1, j2, d, j3, j4⟩ := ih.loop [] (opensR T [123] s).at_ _ q (fun hf => (opens_ok hT hi hf).2.2.2.2.1) (fun hf => ⟨by simp [wSs], 0, by have := (opens_ok hT hi hf).2.2.2.2.1.d; simpa using this, fun x hx => by cases hx⟩) g1 hq
   obtain ⟨o1, o2, o3, o4, o5, o6⟩ := opens_ok hT hi j1.f
   have hc := closes_ok hT (k := 0) (by omega) o3.symm o4.symm o2 o5 j1 hp
   have jb : q.2.at_ + 1 ≤ (closesR T [125] q.2).at_ := by
    have h' : (takeR T [125] q.2).fe = 0 := hp
    exact (take_ok hT (fun _ => j1.in o5 (by omega)) h').2.2.a
   exact ⟨hc.less (by omega), by (try simp only); omega, d, by omega, j4⟩
  ·intro l a0 s p hi he h hp
   rw [loopR] at h
   cases hc : (s.fe == 0 && !isR T s [125]) with
   | false =>
    rw [hc, cond_false] at h
    cases h
    exact ⟨.refl (hi hp) hp, he hp⟩
   | true =>
    rw [hc, cond_true] at h
    simp only [Bool.and_eq_true, beq_iff_eq] at hc
    obtain ⟨q, g1, g2⟩ := bindP h
    have h1 := fun hq => ih.stmt s q hi g1 hq
    obtain ⟨i2, d', i3, i4⟩ := he hc.1
    obtain ⟨k1, k2, d2, k3, k4⟩ := ih.loop (l ++ [q.1]) a0 q.2 p (Fw.to hi (fun hy => (h1 hy).1) (by omega)) (fun hq => by
     obtain ⟨j1, j2, d, j3, j4⟩ := h1 hq
     refine ⟨by rw [wSs_app]; omega, max d d', by rw [j1.o]; exact both_dep j3 i3, fun x hx => ?_⟩
     rcases List.mem_append.1 hx with hx | hx
     ·exact (i4 x hx).more (by omega)
     ·simp only [List.mem_cons, List.not_mem_nil, or_false] at hx
      subst hx; exact j4.more (by omega)) g2 hp
    have j1 := (h1 k1.f).1
    exact ⟨(j1.trans k1).less (by omega), k2, d2, by rw [← j1.o]; exact k3, k4⟩
  ·intro s p hi h hp
   rw [stmtR] at h
   obtain ⟨q, g1, g2⟩ := bindP h
   cases g2
   have key : Fw E s q.2 2 ∧ (wS q.1 : Int) ≤ 400 * (q.2.at_ - s.at_) ∧ ∃ d : Nat, s.opn + d ≤ 50 ∧ WS d q.1 := by
    have hq : q.2.fe = 0 := hp
    clear hp
    cases c1 : (isR T s [118, 97, 114] || isR T s [108, 101, 116]) with
    | true =>
     rw [c1, cond_true] at g1
     have hg : Fw E s (goS s) 1 := by
      rcases Bool.or_eq_true_iff.1 c1 with hx | hx <;> exact isR_go hT (hi (isR_kind hx).1) hx
     have hig := hg.inn hi (by omega)
     have ga := hg.a
     have go := hg.o
     have t1 := fun hq => typed_ok hT hig hq
     have it : Inn E (typedR T (goS s)).2 := Fw.to hig (fun hy => (t1 hy).2.2) (by omega)
     cases c2 : (tokAt T s.at_).text == [108, 101, 116] with
     | true =>
      rw [c2, cond_true] at g1
      cases g1
      have e1 := fun hq => take_ok hT (x := [61]) it hq
      have ie : Inn E (takeR T [61] (typedR T (goS s)).2) := Fw.to it (fun hy => (e1 hy).2.2) (by omega)
      have x1 := fun hq => exprQ_ok hT hA ie hq
      have ix : Inn E (exprQ T (takeR T [61] (typedR T (goS s)).2)).2 := Fw.to ie (fun hy => (x1 hy).1) (by omega)
      obtain ⟨-, -, z1⟩ := take_ok hT (x := [59]) ix hq
      obtain ⟨j1, j2, d, j3, j4⟩ := x1 z1.f
      obtain ⟨-, -, y1⟩ := e1 j1.f
      obtain ⟨n1, n2, n3⟩ := t1 y1.f
      have za := z1.a
      have ja := j1.a
      have ya := y1.a
      have yo := y1.o
      have na := n3.a
      have no := n3.o
      have := wS_e (a := { kind := 2, name := (typedR T (goS s)).1.1, ofn := (typedR T (goS s)).1.2.1, ofd := (typedR T (goS s)).1.2.2 }) (e := (exprQ T (takeR T [61] (typedR T (goS s)).2)).1) (by have := name_len n1; have := of_len n2; simp; omega)
      simp only [letsR]
      exact ⟨((((hg.trans n3).trans y1).trans j1).trans z1).less (by omega), by omega, d, by omega, .lets n1 n2 j4⟩
     | false =>
      rw [c2, cond_false] at g1
      cases g1
      obtain ⟨-, -, z1⟩ := take_ok hT (x := [59]) it hq
      obtain ⟨n1, n2, n3⟩ := t1 z1.f
      have za := z1.a
      have na := n3.a
      have hd := (hi hg.f).d
      have := wS_v (a := { kind := 1, name := (typedR T (goS s)).1.1, ofn := (typedR T (goS s)).1.2.1, ofd := (typedR T (goS s)).1.2.2 }) (by have := name_len n1; have := of_len n2; simp; omega)
      simp only [declR]
      exact ⟨((hg.trans n3).trans z1).less (by omega), by omega, 0, by simpa using hd, .var n1 n2⟩
    | false =>
     rw [c1, cond_false] at g1
     cases c2 : isR T s [105, 102] with
     | true =>
      rw [c2, cond_true] at g1
      have hg := isR_go hT (hi (isR_kind c2).1) c2
      have hig := hg.inn hi (by omega)
      have ga := hg.a
      have go := hg.o
      have x1 := fun hq => exprQ_ok hT hA hig hq
      have ix : Inn E (exprQ T (goS s)).2 := Fw.to hig (fun hy => (x1 hy).1) (by omega)
      obtain ⟨b, g3, g4⟩ := bindP g1
      have b1 := fun hq => ih.block _ b ix g3 hq
      cases c3 : isR T b.2 [101, 108, 115, 101] with
      | true =>
       rw [c3, cond_true] at g4
       obtain ⟨c, g5, g6⟩ := bindP g4
       cases g6
       have hb := b1 (isR_kind c3).1
       have ib : Inn E b.2 := hb.1.inn ix (by omega)
       have hg2 := isR_go hT (ib (isR_kind c3).1) c3
       obtain ⟨m1, m2, d2, m3, m4⟩ := ih.block _ c (hg2.inn ib (by omega)) g5 hq
       obtain ⟨l1, l2, d1, l3, l4⟩ := hb
       obtain ⟨j1, j2, d, j3, j4⟩ := x1 l1.f
       have := wS_b (a := { kind := 5 }) (e := (exprQ T (goS s)).1) (b := b.1) (c := c.1) (by simp)
       have a1 := j1.a
       have a2 := l1.a
       have a3 := hg2.a
       have a4 := m1.a
       have o1 := j1.o
       have o2 := l1.o
       have o3 := hg2.o
       refine ⟨((((hg.trans j1).trans l1).trans hg2).trans m1).less (by omega), by (try simp only); omega, max (d - 1) (max d1 d2) + 1, by omega, .ifs (j4.more (by omega)) (fun x hx => (l4 x hx).more (by omega)) (fun x hx => (m4 x hx).more (by omega))⟩
      | false =>
       rw [c3, cond_false] at g4
       cases g4
       obtain ⟨l1, l2, d1, l3, l4⟩ := b1 hq
       obtain ⟨j1, j2, d, j3, j4⟩ := x1 l1.f
       have := wS_b (a := { kind := 5 }) (e := (exprQ T (goS s)).1) (b := b.1) (c := []) (by simp)
       have a1 := j1.a
       have a2 := l1.a
       have o1 := j1.o
       have e0 : wSs [] = 0 := rfl
       refine ⟨((hg.trans j1).trans l1).less (by omega), by (try simp only); omega, max (d - 1) d1 + 1, by omega, .ifs (j4.more (by omega)) (fun x hx => (l4 x hx).more (by omega)) (fun x hx => by cases hx)⟩
     | false =>
      rw [c2, cond_false] at g1
      cases c3 : isR T s [119, 104, 105, 108, 101] with
      | true =>
       rw [c3, cond_true] at g1
       have hg := isR_go hT (hi (isR_kind c3).1) c3
       have hig := hg.inn hi (by omega)
       have ga := hg.a
       have go := hg.o
       have x1 := fun hq => exprQ_ok hT hA hig hq
       have ix : Inn E (exprQ T (goS s)).2 := Fw.to hig (fun hy => (x1 hy).1) (by omega)
       obtain ⟨b, g3, g4⟩ := bindP g1
       cases g4
       obtain ⟨l1, l2, d1, l3, l4⟩ := ih.block _ b ix g3 hq
       obtain ⟨j1, j2, d, j3, j4⟩ := x1 l1.f
       have := wS_b (a := { kind := 6 }) (e := (exprQ T (goS s)).1) (b := b.1) (c := []) (by simp)
       have a1 := j1.a
       have a2 := l1.a
       have o1 := j1.o
       have e0 : wSs [] = 0 := rfl
       refine ⟨((hg.trans j1).trans l1).less (by omega), by (try simp only); omega, max (d - 1) d1 + 1, by omega, .while (j4.more (by omega)) (fun x hx => (l4 x hx).more (by omega))⟩
      | false =>
       rw [c3, cond_false] at g1
       cases c4 : isR T s [114, 101, 116, 117, 114, 110] with
       | true =>
        rw [c4, cond_true] at g1
        have hg := isR_go hT (hi (isR_kind c4).1) c4
        have hig := hg.inn hi (by omega)
        have ga := hg.a
        have go := hg.o
        have hd := (hi hg.f).d
        cases g1
        unfold retsR at hq ⊢
        cases c5 : isR T (goS s) [59] with
        | true =>
         rw [c5, cond_true] at hq
         rw [cond_true]
         obtain ⟨-, -, z1⟩ := take_ok hT (x := [59]) hig hq
         have za := z1.a
         have := wS_v (a := { kind := 7 }) (by simp)
         exact ⟨(hg.trans z1).less (by omega), by (try simp only); omega, 0, by simpa using hd, .ret0⟩
        | false =>
         rw [c5, cond_false] at hq
         rw [cond_false]
         have x1 := fun hq => exprQ_ok hT hA hig hq
         have ix : Inn E (exprQ T (goS s)).2 := Fw.to hig (fun hy => (x1 hy).1) (by omega)
         obtain ⟨-, -, z1⟩ := take_ok hT (x := [59]) ix hq
         obtain ⟨j1, j2, d, j3, j4⟩ := x1 z1.f
         have za := z1.a
         have ja := j1.a
         have := wS_e (a := { kind := 7 }) (e := (exprQ T (goS s)).1) (by simp)
         exact ⟨((hg.trans j1).trans z1).less (by omega), by (try simp only); omega, d, by omega, .ret1 j4⟩
       | false =>
        rw [c4, cond_false] at g1
        cases c5 : isR T s [112, 114, 105, 110, 116] with
        | true =>
         rw [c5, cond_true] at g1
         have hg := isR_go hT (hi (isR_kind c5).1) c5
         have hig := hg.inn hi (by omega)
         have ga := hg.a
         have go := hg.o
         cases g1
         unfold printR at hq ⊢
         have x1 := fun hq => exprQ_ok hT hA hig hq
         have ix : Inn E (exprQ T (goS s)).2 := Fw.to hig (fun hy => (x1 hy).1) (by omega)
         obtain ⟨-, -, z1⟩ := take_ok hT (x := [59]) ix hq
         obtain ⟨j1, j2, d, j3, j4⟩ := x1 z1.f
         have za := z1.a
         have ja := j1.a
         have := wS_e (a := { kind := 8 }) (e := (exprQ T (goS s)).1) (by simp)
         exact ⟨((hg.trans j1).trans z1).less (by omega), by (try simp only); omega, d, by omega, .print j4⟩
        | false =>
         rw [c5, cond_false] at g1
         cases g1
         exact plain_ok hT hA hi hq
   obtain ⟨k1, k2, d, k3, k4⟩ := key
   exact ⟨k1, by rw [wS_at]; exact k2, d, k3, k4.at _⟩
end
end Go.Proofs.YtghmbpmaafnodaaGreatDoor

namespace Go.Proofs.YtghmbpmaafnodaaGreatDoor
open Go.Ev
def Lv {α : Type} (F : St → R α) : Prop := ∀ s x, F s = some x → x.2.fe = 0 → s.fe = 0 ∧ (0 ≤ s.opn → x.2.opn = s.opn ∧ x.2.fa = s.fa)
def Lv1 (f : St → St) : Prop := ∀ s, (f s).fe = 0 → s.fe = 0 ∧ (f s).opn = s.opn ∧ (f s).fa = s.fa
theorem Lv.bind {α β : Type} {F : St → R α} {G : α → St → R β} (h : Lv F) (hg : ∀ x, Lv (G x)) : Lv fun s => (F s).bind fun p => G p.1 p.2 := by
 intro s x hx hf
 obtain ⟨p, h1, h2⟩ := bindS hx
 obtain ⟨g1, g2⟩ := hg p.1 p.2 x h2 hf
 obtain ⟨f1, f2⟩ := h s p h1 g1
 refine ⟨f1, fun ho => ?_⟩
 obtain ⟨e1, e2⟩ := f2 ho
 obtain ⟨e3, e4⟩ := g2 (by rw [e1]; exact ho)
 exact ⟨e3.trans e1, e4.trans e2⟩
theorem Lv.none {α : Type} {F : St → R α} (h : ∀ s, F s = none) : Lv F := fun s x hx => by rw [h] at hx; cases hx
theorem Lv.of1 {α : Type} {f : St → α × St} (h : Lv1 fun s => (f s).2) : Lv fun s => some (f s) := fun s x hx hf => by
 cases hx
 obtain ⟨h1, h2⟩ := h s hf
 exact ⟨h1, fun _ => h2⟩
theorem Lv1.comp {f g : St → St} (h : Lv1 f) (k : Lv1 g) : Lv1 fun s => g (f s) := fun s hs => by
 obtain ⟨a1, a2, a3⟩ := k _ hs
 obtain ⟨b1, b2, b3⟩ := h _ a1
 exact ⟨b1, a2.trans b2, a3.trans b3⟩
theorem Lv.pre {α : Type} {F : St → R α} {f : St → St} (h : Lv1 f) (k : Lv F) : Lv fun s => F (f s) := fun s x hx hf => by
 obtain ⟨a1, a2⟩ := k _ x hx hf
 obtain ⟨b1, b2, b3⟩ := h s a1
 refine ⟨b1, fun ho => ?_⟩
 obtain ⟨c1, c2⟩ := a2 (by rw [b2]; exact ho)
 exact ⟨c1.trans b2, c2.trans b3⟩
theorem Lv1.go : Lv1 goS := fun s h => ⟨h, rfl, rfl⟩
theorem Lv1.id : Lv1 fun s => s := fun s h => ⟨h, rfl, rfl⟩
variable {T : List Tok}
theorem failS_no {s : St} {e : Int} (he : e ≠ 0) (h : (failS T e s).fe = 0) : False := by
 unfold failS at h
 split at h
 ·exact he h
 ·rename_i hs; exact hs h
theorem Lv1.wants (x : Bs) : Lv1 fun s => (wantsS T x s).2 := fun s h => by
 have h : (wantsS T x s).2.fe = 0 := h
 show s.fe = 0 ∧ (wantsS T x s).2.opn = s.opn ∧ (wantsS T x s).2.fa = s.fa
 cases hb : isB T s 4 x with
 | true =>
  have e : (wantsS T x s).2 = goS s := by simp [wantsS, hb]
  rw [e] at h ⊢
  exact ⟨h, rfl, rfl⟩
 | false =>
  have e : (wantsS T x s).2 = failS T 2 s := by simp [wantsS, hb]
  rw [e] at h
  exact (failS_no (by decide) h).elim
theorem Lv1.wantN (x : Bs) : ∀ n : Nat, Lv1 (wantN T x n)
 | 0 => Lv1.id
 | n + 1 => Lv1.comp (f := fun s => (wantsS T x s).2) (g := YtghmbpmaafnodaaGreatDoor.wantN T x n) (Lv1.wants x) (Lv1.wantN x n)
theorem lv_ofL : ∀ (n : Nat) (d : Int) (s : St), (∀ d' s', ofL T n d s = .inl (d', s') → s'.fe = 0 → s.fe = 0 ∧ s'.opn = s.opn ∧ s'.fa = s.fa) ∧ ∀ s', ofL T n d s = .inr s' → s'.fe ≠ 0
 | 0, d, s => by
  simp only [ofL]
  cases isB T s 4 [91] with
  | true => exact ⟨fun _ _ h => (by cases h), fun s' h h0 => by cases h; exact failS_no (by decide) h0⟩
  | false => exact ⟨fun _ _ h hf => (by cases h; exact ⟨hf, rfl, rfl⟩), fun _ h => (by cases h)⟩
 | n + 1, d, s => by
  simp only [ofL]
  cases isB T s 4 [91] with
  | true => exact lv_ofL n (d + 1) (goS s)
  | false => exact ⟨fun _ _ h hf => (by cases h; exact ⟨hf, rfl, rfl⟩), fun _ h => (by cases h)⟩
theorem Lv1.of : Lv1 fun s => (ofS T s).2 := fun s h => by
 obtain ⟨i1, i2⟩ := lv_ofL (T := T) 3 0 s
 have h' : (ofS T s).2.fe = 0 := h
 show s.fe = 0 ∧ (ofS T s).2.opn = s.opn ∧ (ofS T s).2.fa = s.fa
 unfold ofS at h' ⊢
 cases hl : ofL T 3 0 s with
 | inr s' => rw [hl] at h'; exact absurd h' (i2 s' hl)
 | inl p =>
  obtain ⟨d, s1⟩ := p
  rw [hl] at h'
  simp only at h' ⊢
  cases hc : ((tokAt T s1.at_).kind != 1 && (!isB T s1 3 [105, 110, 116] && !isB T s1 3 [98, 111, 111, 108])) with
  | true =>
   simp only [ofE, hc, cond_true] at h'
   exact (failS_no (by decide) h').elim
  | false =>
   simp only [ofE, hc, cond_false] at h' ⊢
   obtain ⟨a1, a2, a3⟩ := Lv1.comp Lv1.go (Lv1.wantN [93] d.toNat) s1 h'
   obtain ⟨b1, b2, b3⟩ := i1 d s1 hl a1
   exact ⟨b1, a2.trans b2, a3.trans b3⟩
theorem lv_open {s : St} {x : Bs} (h : (opensS T x s).1 = true) : s.fe = 0 ∧ s.opn < 50 ∧ (opensS T x s).2 = { s with at_ := w64 (s.at_ + 1), opn := w64 (s.opn + 1) } := by
 unfold opensS at h ⊢
 cases hb : isB T s 4 x with
 | false => rw [hb] at h; cases h
 | true =>
  rw [hb] at h
  simp only [cond_true] at h ⊢
  split at h
  ·cases h
  ·rename_i ho
   rw [if_neg ho]
   exact ⟨(isB_kind hb).1, by omega, rfl⟩
theorem lv_noopen {s : St} {x : Bs} (h : (opensS T x s).1 = false) : (opensS T x s).2.fe ≠ 0 := by
 unfold opensS at h ⊢
 cases hb : isB T s 4 x with
 | false => exact fun h0 => failS_no (by decide) h0
 | true =>
  rw [hb] at h
  simp only [cond_true] at h ⊢
  split at h
  ·rename_i ho
   rw [if_pos ho]
   exact fun h0 => failS_no (by decide) h0
  ·cases h
theorem w64_io {o : Int} (h0 : 0 ≤ o) (h1 : o < 50) : w64 (o + 1) = o + 1 ∧ w64 (o + 1 - 1) = o := ⟨wrap_i64 (by omega) (by omega), by rw [show o + 1 - 1 = o by omega]; exact wrap_i64 (by omega) (by omega)⟩
theorem Lv.within {α β : Type} {F : St → R α} {g : St → α → β} {v : β} {w : St → St} {x : Bs} (h : Lv F) (hw : ∀ s, (w s).fe = 0 → s.fe = 0 ∧ (w s).opn = w64 (s.opn - 1) ∧ (w s).fa = s.fa) :
  Lv fun s => bif (opensS T x s).1 then (F (opensS T x s).2).bind fun p => some (g s p.1, w p.2) else some (v, (opensS T x s).2) := by
 intro s y hy hf
 cases ho : (opensS T x s).1 with
 | false =>
  simp only [ho, cond_false, Option.some.injEq] at hy
  subst hy
  exact absurd hf (lv_noopen ho)
 | true =>
  obtain ⟨o1, o2, o3⟩ := lv_open ho
  simp only [ho, cond_true] at hy
  obtain ⟨p, h1, h2⟩ := bindS hy
  simp only [Option.some.injEq] at h2
  subst h2
  obtain ⟨a1, a2, a3⟩ := hw p.2 hf
  obtain ⟨b1, b2⟩ := h _ p h1 a1
  refine ⟨o1, fun h0 => ?_⟩
  obtain ⟨c1, c2⟩ := w64_io h0 o2
  rw [o3] at b2
  obtain ⟨d1, d2⟩ := b2 (by simp only; rw [c1]; omega)
  refine ⟨?_, a3.trans d2⟩
  show (w p.2).opn = s.opn
  rw [a2, d1]
  simp only
  rw [c1, c2]
theorem lv_closes (y : Bs) (s : St) (h : (closesS T y s).2.fe = 0) : s.fe = 0 ∧ (closesS T y s).2.opn = w64 (s.opn - 1) ∧ (closesS T y s).2.fa = s.fa := by
 obtain ⟨a1, a2, a3⟩ := Lv1.wants (T := T) y (outS s) h
 exact ⟨a1, a2, a3⟩
structure LvAll (T : List Tok) (n : Nat) : Prop where
 row : ∀ lev, Lv (rowF T n lev)
 rowL : ∀ lev e, Lv (rowL T n lev e)
 unary : Lv (unaryF T n)
 sign : ∀ x q, Lv (signF T n x q)
 chain : Lv (chainF T n)
 chainL : ∀ e, Lv (chainL T n e)
 single : ∀ x y, Lv (singleF T n x y)
 first : Lv (firstF T n)
 name : Lv (nameF T n)
 fresh : Lv (freshF T n)
 list : Lv (listF T n)
 listL : ∀ l s x, listL T n l s = some x → x.2.fe = 0 → s.fe = 0 ∧ (1 ≤ s.opn ∧ s.opn ≤ 50 → x.2.opn = s.opn - 1 ∧ x.2.fa = s.fa)
theorem Lv.ite {α : Type} {F G : St → R α} (c : St → Bool) (h : Lv F) (k : Lv G) : Lv fun s => bif c s then F s else G s := fun s x hx => by
 cases hc : c s with
 | true => simp only [hc, cond_true] at hx; exact h s x hx
 | false => simp only [hc, cond_false] at hx; exact k s x hx
theorem Lv.bad {α : Type} {v : α} : Lv fun s => some (v, failS T 2 s) := fun s x hx hf => by
 cases hx; exact (failS_no (by decide) hf).elim
theorem Lv.eq {α : Type} {F G : St → R α} (h : Lv F) (e : ∀ s, G s = F s) : Lv G := fun s x hx => h s x (by rw [← e]; exact hx)
theorem lvAll (T : List Tok) : ∀ n, LvAll T n
 | 0 => by
  refine ⟨?_, ?_, ?_, ?_, ?_, ?_, ?_, ?_, ?_, ?_, ?_, ?_⟩
  all_goals intros
  all_goals first | exact Lv.none fun _ => rfl | (rename_i h _; cases h)
 | n + 1 => by
  have ih := lvAll T n
  refine ⟨fun lev => ?_, fun lev e => ?_, ?_, fun x q => ?_, ?_, fun e => ?_, fun x y => ?_, ?_, ?_, ?_, ?_, fun l => ?_⟩
  ·by_cases h5 : lev = 5
   ·exact ih.unary.eq fun s => by rw [rowF, if_pos h5]
   ·exact (Lv.bind (ih.row (lev + 1)) fun e => ih.rowL lev e).eq fun s => by rw [rowF, if_neg h5]
  ·intro s x hx hf
   rw [rowL] at hx
   by_cases hk : kindS T lev s = 0
   ·rw [if_pos hk] at hx; cases hx; exact ⟨hf, fun _ => ⟨rfl, rfl⟩⟩
   ·rw [if_neg hk] at hx
    exact Lv.pre Lv1.go (Lv.bind (ih.row (lev + 1)) fun b => ih.rowL lev (.mk { kind := kindS T lev s, pos := (tokAt T s.at_).pos } [e, b])) s x hx hf
  ·exact (Lv.ite (fun s => isB T s 4 [45]) (ih.sign [45] 12) (Lv.ite (fun s => isB T s 4 [33]) (ih.sign [33] 13) ih.chain)).eq fun s => by rw [unaryF]
  ·exact (Lv.within (T := T) (x := x) (g := fun s a => .mk { kind := q, pos := (tokAt T s.at_).pos } [a]) (v := Ex.zero) (w := outS) ih.unary fun s h => ⟨h, rfl, rfl⟩).eq fun s => by rw [signF]
  ·exact (Lv.bind ih.first fun e => ih.chainL e).eq fun s => by rw [chainF]
  ·intro s x hx hf
   rw [chainL] at hx
   cases hc : (s.fe == 0 && (tokAt T s.at_).kind == 4) with
   | false => simp only [hc, cond_false, Option.some.injEq] at hx; subst hx; exact ⟨hf, fun _ => ⟨rfl, rfl⟩⟩
   | true =>
    simp only [hc, cond_true] at hx
    cases hd : (tokAt T s.at_).text == [46] with
    | true =>
     simp only [hd, cond_true] at hx
     obtain ⟨a1, a2⟩ := ih.chainL _ _ x hx hf
     have hfl : (fieldS T e s).2.fe = 0 → s.fe = 0 ∧ (fieldS T e s).2.opn = s.opn ∧ (fieldS T e s).2.fa = s.fa := by
      unfold fieldS
      cases hk : ((tokAt T (goS s).at_).kind != 1) with
      | true => exact fun h => (failS_no (T := T) (s := goS s) (e := 2) (by decide) h).elim
      | false => exact fun h => ⟨h, rfl, rfl⟩
     obtain ⟨b1, b2, b3⟩ := hfl a1
     refine ⟨b1, fun ho => ?_⟩
     obtain ⟨c1, c2⟩ := a2 (by rw [b2]; exact ho)
     exact ⟨c1.trans b2, c2.trans b3⟩
    | false =>
     simp only [hd, cond_false] at hx
     cases hd2 : (tokAt T s.at_).text == [91] with
     | true =>
      simp only [hd2, cond_true] at hx
      exact Lv.bind (ih.single [91] [93]) (fun b => ih.chainL (.mk { kind := 6, pos := (tokAt T s.at_).pos } [e, b])) s x hx hf
     | false => simp only [hd2, cond_false, Option.some.injEq] at hx; subst hx; exact ⟨hf, fun _ => ⟨rfl, rfl⟩⟩
  ·exact (Lv.within (T := T) (x := x) (g := fun _ a => a) (v := Ex.zero) (w := fun s => (closesS T y s).2) (ih.row 0) (lv_closes y)).eq fun s => by rw [singleF]
  ·intro s x hx hf
   rw [firstF] at hx
   by_cases hfe : s.fe = 0
   ·rw [if_neg (by simp [hfe])] at hx
    by_cases k2 : (tokAt T s.at_).kind = 2
    ·rw [if_pos k2] at hx; cases hx; exact ⟨hf, fun _ => ⟨rfl, rfl⟩⟩
    ·rw [if_neg k2] at hx
     by_cases k1 : (tokAt T s.at_).kind = 1
     ·rw [if_pos k1] at hx; exact ih.name s x hx hf
     ·rw [if_neg k1] at hx
      by_cases k34 : (tokAt T s.at_).kind = 3 ∨ (tokAt T s.at_).kind = 4
      ·rw [if_pos k34] at hx
       have htruth : Lv fun s => some (truthS T s) := Lv.of1 fun s h => ⟨h, rfl, rfl⟩
       have hnull : Lv fun s => some (nullS T s) := Lv.of1 (Lv1.comp Lv1.go (Lv1.of (T := T)))
       have hread : Lv fun s => some (readS T s) := by
        refine Lv.eq (F := fun s => (fun s => bif (opensS T [40] s).1 then (some ((), (opensS T [40] s).2)).bind fun p => some ((), (closesS T [41] p.2).2) else some ((), (opensS T [40] s).2)) (goS s) |>.bind fun p => some (.mk { kind := 11, pos := (tokAt T s.at_).pos } [], p.2)) ?_ fun s => ?_
        ·intro s y hy hyf
         obtain ⟨p, p1, p2⟩ := bindS hy
         cases p2
         exact Lv.pre Lv1.go (Lv.within (T := T) (x := [40]) (F := fun s => some ((), s)) (g := fun _ _ => ()) (v := ()) (w := fun s => (closesS T [41] s).2) (fun s z hz hzf => by cases hz; exact ⟨hzf, fun _ => ⟨rfl, rfl⟩⟩) (lv_closes [41])) s p p1 hyf
        ·simp only [readS]
         cases (opensS T [40] (goS s)).1 <;> rfl
       have hlen : Lv fun s => (singleF T n [40] [41] (goS s)).bind fun p => some (Ex.mk { kind := 10, pos := (tokAt T s.at_).pos } [p.1], p.2) := by
        intro s y hy hyf
        obtain ⟨p, p1, p2⟩ := bindS hy
        cases p2
        exact Lv.pre Lv1.go (ih.single [40] [41]) s p p1 hyf
       exact Lv.ite (fun s => (tokAt T s.at_).kind == 4) (Lv.ite (fun s => (tokAt T s.at_).text == [40]) (ih.single [40] [41]) Lv.bad)
        (Lv.ite (fun s => (tokAt T s.at_).text == [116, 114, 117, 101] || (tokAt T s.at_).text == [102, 97, 108, 115, 101]) htruth (Lv.ite (fun s => (tokAt T s.at_).text == [110, 117, 108, 108]) hnull
         (Lv.ite (fun s => (tokAt T s.at_).text == [110, 101, 119]) ih.fresh (Lv.ite (fun s => (tokAt T s.at_).text == [108, 101, 110]) hlen (Lv.ite (fun s => (tokAt T s.at_).text == [114, 101, 97, 100]) hread Lv.bad))))) s x hx hf
      ·rw [if_neg k34] at hx; exact Lv.bad s x hx hf
   ·rw [if_pos (by simpa using hfe)] at hx; cases hx; exact absurd hf hfe
  ·intro s x hx hf
   rw [nameF] at hx
   cases hb : isB T (goS s) 4 [40] with
   | true =>
    simp only [hb, cond_true] at hx
    obtain ⟨p, p1, p2⟩ := bindS hx
    cases p2
    exact Lv.pre Lv1.go ih.list s p p1 hf
   | false => simp only [hb, cond_false, Option.some.injEq] at hx; subst hx; exact Lv1.go s hf |>.imp id fun h _ => h
  ·intro s x hx hf
   rw [freshF] at hx
   cases hb : isB T (goS s) 4 [91] with
   | true =>
    simp only [hb, cond_true] at hx
    obtain ⟨p, p1, p2⟩ := bindS hx
    cases p2
    exact Lv.pre (Lv1.comp (Lv1.comp (Lv1.comp Lv1.go Lv1.go) (Lv1.of (T := T))) (Lv1.wants (T := T) [93])) (ih.single [40] [41]) s p p1 hf
   | false =>
    simp only [hb, cond_false, Option.some.injEq] at hx
    subst hx
    cases hk : ((tokAt T (goS s).at_).kind != 1) with
    | true =>
     simp only [hk, cond_true] at hf
     exact (failS_no (T := T) (s := goS s) (e := 2) (by decide) hf).elim
    | false => simp only [hk, cond_false] at hf ⊢; exact ⟨hf, fun _ => ⟨rfl, rfl⟩⟩
  ·intro s x hx hf
   rw [listF] at hx
   cases ho : (opensS T [40] s).1 with
   | false => simp only [ho, cond_false, Option.some.injEq] at hx; subst hx; exact absurd hf (lv_noopen ho)
   | true =>
    obtain ⟨o1, o2, o3⟩ := lv_open ho
    simp only [ho, cond_true] at hx
    cases hb : isB T (opensS T [40] s).2 4 [41] with
    | true =>
     simp only [hb, cond_true, Option.some.injEq] at hx
     subst hx
     obtain ⟨a1, a2, a3⟩ := lv_closes [41] _ hf
     refine ⟨o1, fun h0 => ?_⟩
     obtain ⟨c1, c2⟩ := w64_io h0 o2
     rw [o3] at a2 a3
     simp only [c1] at a2 a3
     rw [c2] at a2
     rw [o3]
     simp only [c1]
     exact ⟨a2, a3⟩
    | false =>
     simp only [hb, cond_false] at hx
     obtain ⟨p, p1, p2⟩ := bindS hx
     obtain ⟨a1, a2⟩ := ih.listL [p.1] p.2 x p2 hf
     obtain ⟨b1, b2⟩ := ih.row 0 _ p p1 a1
     refine ⟨o1, fun h0 => ?_⟩
     obtain ⟨c1, c2⟩ := w64_io h0 o2
     rw [o3] at b2
     simp only [c1] at b2
     obtain ⟨d1, d2⟩ := b2 (by omega)
     obtain ⟨e1, e2⟩ := a2 (by rw [d1]; omega)
     exact ⟨by rw [e1, d1]; omega, e2.trans d2⟩
  ·intro s x hx hf
   rw [listL] at hx
   cases ht : (takesS T 4 [44] s).1 with
   | false =>
    simp only [ht, cond_false, Option.some.injEq] at hx
    subst hx
    have hts : (takesS T 4 [44] s).2 = s := by
     unfold takesS at ht ⊢
     cases hb : isB T s 4 [44] with
     | true => rw [hb] at ht; cases ht
     | false => rfl
    simp only [hts] at hf ⊢
    obtain ⟨a1, a2, a3⟩ := lv_closes [41] s hf
    exact ⟨a1, fun h => ⟨by rw [a2]; exact wrap_i64 (by omega) (by omega), a3⟩⟩
   | true =>
    simp only [ht, cond_true] at hx
    obtain ⟨p, p1, p2⟩ := bindS hx
    have hts : (takesS T 4 [44] s).2 = goS s := by
     unfold takesS at ht ⊢
     cases hb : isB T s 4 [44] with
     | true => rfl
     | false => rw [hb] at ht; cases ht
    rw [hts] at p1
    obtain ⟨a1, a2⟩ := ih.listL _ p.2 x p2 hf
    obtain ⟨b1, b2⟩ := ih.row 0 _ p p1 a1
    refine ⟨b1, fun h => ?_⟩
    obtain ⟨d1, d2⟩ := b2 (by show (0 : Int) ≤ s.opn; omega)
    have d1' : p.2.opn = s.opn := d1
    obtain ⟨e1, e2⟩ := a2 (by rw [d1']; exact h)
    exact ⟨by rw [e1, d1'], e2.trans d2⟩
end Go.Proofs.YtghmbpmaafnodaaGreatDoor

namespace Go.Proofs.YtghmbpmaafnodaaGreatDoor
open Go.Ev
def parseB (l : List Stm) (s : St) : List Stm × Int × Int × Int := if s.fe = 0 then (l, s.at_, 0, 0) else ([], 0, s.fe, s.fa)
end Go.Proofs.YtghmbpmaafnodaaGreatDoor

namespace Go.Proofs.YtghmbpmaafnodaaGreatDoor
open Go.Ev
def AgS (T : List Tok) (s x y : St) : Prop := SameS x y ∧ (x.fe = 0 → x.opn = s.opn ∧ x.fa = s.fa ∧ left T x ≤ left T s)
def Ag {α : Type} (T : List Tok) (s : St) (x y : α × St) : Prop := Same x y ∧ (x.2.fe = 0 → x.2.opn = s.opn ∧ x.2.fa = s.fa ∧ left T x.2 ≤ left T s)
theorem Same.eq {α : Type} {p q : α × St} (h : Same p q) (hf : p.2.fe = 0) : q = p := by
 rcases h with h | h
 ·exact h.2
 ·exact absurd hf h.1
theorem Same.st4 {α : Type} {p q : α × St} (h : Same p q) : SameS p.2 q.2 := by
 rcases h with ⟨h, rfl⟩ | ⟨h1, h2, h3⟩
 ·exact .inl ⟨h, rfl⟩
 ·exact .inr ⟨h1, h2, h3⟩
theorem Same.of4 {α : Type} {p q : α × St} (h : SameS p.2 q.2) (hv : p.2.fe = 0 → q.1 = p.1) : Same p q := by
 rcases h with ⟨h, e⟩ | ⟨h1, h2, h3⟩
 ·exact .inl ⟨h, Prod.ext (hv h) e⟩
 ·exact .inr ⟨h1, h2, h3⟩
theorem Ag.st {α : Type} {T : List Tok} {s : St} {x y : α × St} (h : Ag T s x y) : AgS T s x.2 y.2 := ⟨h.1.st4, h.2⟩
theorem SameS.eq {x y : St} (h : SameS x y) (hf : x.fe = 0) : y = x := by
 rcases h with h | h
 ·exact h.2
 ·exact absurd hf h.1
theorem SameS.ne {x y : St} (h : SameS x y) (hf : x.fe ≠ 0) : y.fe ≠ 0 := by
 rcases h with h | h
 ·exact absurd h.1 hf
 ·rw [h.2.1]; exact hf
section
variable {T : List Tok} (hT : T.length ≤ 20000000)
include hT
theorem ag_wants {s x y : St} (h : AgS T s x y) {z : Bs} (hz : kw z = 4) : AgS T s (wantsS T z x).2 (takeR T z y) := by
 refine ⟨wants_same h.1 hz, fun hf => ?_⟩
 obtain ⟨a1, a2, a3⟩ := Lv1.wants z x hf
 obtain ⟨b1, b2, b3⟩ := h.2 a1
 exact ⟨a2.trans b1, a3.trans b2, Nat.le_trans (left_wants (by omega) x z) b3⟩
theorem wants_strict {x : St} {z : Bs} (hf : (wantsS T z x).2.fe = 0) : left T (wantsS T z x).2 + 1 ≤ left T x := by
 cases hb : isB T x 4 z with
 | true =>
  have : (wantsS T z x).2 = goS x := by simp [wantsS, hb]
  rw [this]; exact left_is (by omega) (by decide) hb
 | false =>
  have : (wantsS T z x).2 = failS T 2 x := by simp [wantsS, hb]
  rw [this] at hf
  exact (failS_no (by decide) hf).elim
theorem ag_semi {α : Type} {s x y : St} (h : AgS T s x y) {v v' : α} (hv : x.fe = 0 → v' = v) : Ag T s (v, (wantsS T [59] x).2) (v', takeR T [59] y) ∧ ((wantsS T [59] x).2.fe = 0 → left T (wantsS T [59] x).2 + 1 ≤ left T s) := by
 have hw := ag_wants hT h (z := [59]) (by decide)
 refine ⟨⟨Same.of4 hw.1 fun hf => hv (Lv1.wants [59] x hf).1, hw.2⟩, fun hf => ?_⟩
 have := wants_strict hT hf
 have := (h.2 (Lv1.wants [59] x hf).1).2.2
 omega
omit hT in
theorem startS_self {x : St} (h0 : x.fe = 0) (h1 : x.fa = 0) (h2 : 0 ≤ x.opn) : startS x.at_ x.opn = x := by
 cases x
 simp only at h0 h1 h2
 subst h0 h1
 simp only [startS]
 rw [if_neg (by omega)]
theorem ag_expr {s x y : St} (h : AgS T s x y) (ha : s.fa = 0) (ho : 0 ≤ s.opn) : Ag T s (exprP T x) (exprQ T y) := by
 by_cases hf : x.fe = 0
 ·obtain rfl := h.1.eq hf
  obtain ⟨b1, b2, b3⟩ := h.2 hf
  obtain ⟨p, q, h1, h2, h3, h4⟩ := rows_both (T := T) (by omega) T.length y (left_le _ _) 0 800000000 800000000 (by omega) (by omega) (by omega)
  have hq : exprQ T y = q := by simp only [exprQ, h2]
  rw [hq]
  have hs := startS_self hf (b2.trans ha) (by rw [b1]; exact ho)
  by_cases hp : p.2.fe = 0
  ·obtain ⟨-, e⟩ := (lvAll T 800000000).row 0 y p h1 hp
   obtain ⟨e1, e2⟩ := e (by rw [b1]; exact ho)
   have hpp : exprP T y = p := by
    unfold exprP
    rw [if_neg (by simp [hf]), hs, h1]
    simp only [hp, if_true]
    refine Prod.ext rfl ?_
    rw [show p.2 = ⟨p.2.at_, p.2.opn, p.2.fe, p.2.fa⟩ from rfl, e1, e2, hp, ← hf]
   rw [hpp]
   exact ⟨h3, fun _ => ⟨e1.trans b1, e2.trans b2, Nat.le_trans h4 b3⟩⟩
  ·have hpp : exprP T y = (.zero, { y with fe := p.2.fe, fa := p.2.fa }) := by
    unfold exprP
    rw [if_neg (by simp [hf]), hs, h1]
    simp only [hp, if_false]
   rw [hpp]
   rcases h3 with h3 | ⟨h5, h6, h7⟩
   ·exact absurd h3.1 hp
   ·exact ⟨.inr ⟨h5, h6, h7⟩, fun h => absurd h hp⟩
 ·have hy := h.1.ne hf
  have hp : exprP T x = (.zero, x) := by simp [exprP, hf]
  have hq : exprQ T y = (deadE T y, y) := by simp only [exprQ, exprR_failed hy 800000000 0 (by omega) (by omega)]
  rw [hp, hq]
  refine ⟨Same.of4 h.1 fun h0 => absurd h0 hf, fun h0 => absurd h0 hf⟩
omit hT in
theorem wantN_opn (x : Bs) (o : Int) : ∀ (n : Nat) (s : St), wantN T x n { s with opn := o } = { wantN T x n s with opn := o }
 | 0, s => rfl
 | n + 1, s => by
  have : (wantsS T x { s with opn := o }).2 = { (wantsS T x s).2 with opn := o } := by
   have hb : isB T { s with opn := o } 4 x = isB T s 4 x := rfl
   simp only [wantsS, hb]
   cases isB T s 4 x with
   | true => rfl
   | false =>
    simp only [cond_false, failS]
    split <;> rfl
  simp only [YtghmbpmaafnodaaGreatDoor.wantN, this]
  exact wantN_opn x o n _
omit hT in
theorem ofL_opn (o : Int) : ∀ (n : Nat) (d : Int) (s : St), ofL T n d { s with opn := o } = match ofL T n d s with
  | .inl p => .inl (p.1, { p.2 with opn := o })
  | .inr s' => .inr { s' with opn := o }
 | 0, d, s => by
  have hb : isB T { s with opn := o } 4 [91] = isB T s 4 [91] := rfl
  simp only [ofL, hb]
  cases isB T s 4 [91] with
  | true => simp only [cond_true, failS]; split <;> rfl
  | false => rfl
 | n + 1, d, s => by
  have hb : isB T { s with opn := o } 4 [91] = isB T s 4 [91] := rfl
  simp only [ofL, hb]
  cases isB T s 4 [91] with
  | true => exact ofL_opn o n (d + 1) (goS s)
  | false => rfl
omit hT in
theorem of_opn (o : Int) (s : St) : ofS T { s with opn := o } = ((ofS T s).1, { (ofS T s).2 with opn := o }) := by
 unfold ofS
 rw [ofL_opn]
 cases ofL T 3 0 s with
 | inr s' => rfl
 | inl p =>
  have hb : ∀ x, isB T { p.2 with opn := o } 3 x = isB T p.2 3 x := fun _ => rfl
  simp only [ofE, hb]
  cases ((tokAt T p.2.at_).kind != 1 && (!isB T p.2 3 [105, 110, 116] && !isB T p.2 3 [98, 111, 111, 108])) with
  | true => simp only [cond_true, failS]; split <;> rfl
  | false =>
   simp only [cond_false]
   exact Prod.ext rfl (wantN_opn [93] o p.1.toNat (goS p.2))
omit hT in
theorem ofR_failed {y : St} (h : y.fe ≠ 0) : ofR T y = (([], 0), y) := by
 simp only [ofR, ofRL, isR_failed h, cond_false, ofRE, Bool.or_self, nameR_failed h]
 rfl
theorem ag_of {s x : St} (hf : x.fe = 0) (h : x.opn = s.opn ∧ x.fa = s.fa ∧ left T x ≤ left T s) (ha : s.fa = 0) : Ag T s (ofT T x) (ofR T x) := by
 obtain ⟨b1, b2, b3⟩ := h
 have hx : x = { (⟨x.at_, 0, 0, 0⟩ : St) with opn := x.opn } := by
  cases x
  simp only at hf b2 ⊢
  rw [hf, b2, ha]
 have ho := of_opn (T := T) x.opn ⟨x.at_, 0, 0, 0⟩
 rw [← hx] at ho
 have hs := of_same T x
 rw [ho] at hs
 unfold ofT
 by_cases hq : (ofS T ⟨x.at_, 0, 0, 0⟩).2.fe = 0
 ·obtain ⟨-, c1, c2⟩ := Lv1.of (T := T) ⟨x.at_, 0, 0, 0⟩ hq
  rw [if_pos hq]
  have e : ({ x with at_ := (ofS T ⟨x.at_, 0, 0, 0⟩).2.at_ } : St) = { (ofS T ⟨x.at_, 0, 0, 0⟩).2 with opn := x.opn } := by
   have c2' : (ofS T ⟨x.at_, 0, 0, 0⟩).2.fa = 0 := c2
   show _ = (⟨(ofS T ⟨x.at_, 0, 0, 0⟩).2.at_, x.opn, (ofS T ⟨x.at_, 0, 0, 0⟩).2.fe, (ofS T ⟨x.at_, 0, 0, 0⟩).2.fa⟩ : St)
   rw [hf, hq, c2', b2, ha]
  rw [e]
  have hl := left_of (T := T) (by omega) ⟨x.at_, 0, 0, 0⟩
  refine ⟨hs, fun _ => ⟨b1, ?_, ?_⟩⟩
  ·show (ofS T ⟨x.at_, 0, 0, 0⟩).2.fa = s.fa
   rw [ha]; exact c2
  ·refine Nat.le_trans (Nat.le_trans hl ?_) b3
   unfold left
   simp [hf]
 ·rw [if_neg hq]
  rcases hs with hs | ⟨g1, g2, g3⟩
  ·exact absurd hs.1 hq
  ·exact ⟨.inr ⟨g1, g2, g3⟩, fun h => absurd h hq⟩
theorem ag_typed {s x : St} (hf : x.fe = 0) (h : x.opn = s.opn ∧ x.fa = s.fa ∧ left T x ≤ left T s) (ha : s.fa = 0) : Ag T s (typedS T x) (typedR T x) := by
 have hfb : (x.fe == 0) = true := by simp [hf]
 have base : AgS T s (goS (bif (tokAt T x.at_).kind != 1 then failS T 2 x else x)) (nameR T x).2 ∧ ((goS (bif (tokAt T x.at_).kind != 1 then failS T 2 x else x)).fe = 0 → (nameR T x).1 = (tokAt T x.at_).text) := by
  by_cases hk : (tokAt T x.at_).kind = 1
  ·have h1 : ((tokAt T x.at_).kind != 1) = false := by simp [hk]
   have h2 : ((tokAt T x.at_).kind == 1) = true := by simp [hk]
   simp only [h1, cond_false, nameR, hfb, h2, Bool.and_self, cond_true]
   have hl := left_go (T := T) (by omega) hf (by rw [hk]; decide)
   exact ⟨⟨SameS.refl _, fun _ => ⟨h.1, h.2.1, by omega⟩⟩, fun _ => trivial⟩
  ·have h1 : ((tokAt T x.at_).kind != 1) = true := by simpa using hk
   have h2 : ((tokAt T x.at_).kind == 1) = false := by simpa using hk
   simp only [h1, cond_true, nameR, h2, Bool.and_false, cond_false]
   have hz : (failS T 2 x).fe ≠ 0 := fun h0 => failS_no (by decide) h0
   exact ⟨⟨.inr ⟨hz, rfl, rfl⟩, fun h0 => absurd h0 hz⟩, fun h0 => absurd h0 hz⟩
 have hc : AgS T s (colonS T x) (takeR T [58] (nameR T x).2) := ag_wants hT base.1 (z := [58]) (by decide)
 unfold typedS typedR
 by_cases hz : (colonS T x).fe = 0
 ·rw [if_neg (by simp [hz])]
  have hn := base.2 (Lv1.wants [58] _ hz).1
  rw [hc.1.eq hz, hn]
  have ho := ag_of hT hz (hc.2 hz) ha
  exact ⟨Same.of4 ho.1.st4 fun h0 => by rw [ho.1.eq h0], ho.2⟩
 ·rw [if_pos hz]
  have hy := hc.1.ne hz
  rw [ofR_failed hy]
  exact ⟨Same.of4 hc.1 fun h0 => absurd h0 hz, fun h0 => absurd h0 hz⟩
def Strict {α : Type} (T : List Tok) (s : St) (p : α × St) : Prop := p.2.fe = 0 → left T p.2 + 1 ≤ left T s
theorem ag_decl {s x : St} (hf : x.fe = 0) (h : x.opn = s.opn ∧ x.fa = s.fa ∧ left T x ≤ left T s) (ha : s.fa = 0) : Ag T s (declS T x) (declR T x) := by
 have ht := ag_typed hT hf h ha
 exact (ag_semi hT ht.st fun h0 => by rw [ht.1.eq h0]).1
theorem ag_lets {s x : St} (hf : x.fe = 0) (h : x.opn = s.opn ∧ x.fa = s.fa ∧ left T x ≤ left T s) (ha : s.fa = 0) (ho : 0 ≤ s.opn) : Ag T s (letsS T x) (letsR T x) := by
 have ht := ag_typed hT hf h ha
 have he := ag_expr hT (ag_wants hT ht.st (z := [61]) (by decide)) ha ho
 refine (ag_semi hT he.st fun h0 => ?_).1
 have h1 : (wantsS T [61] (typedS T x).2).2.fe = 0 := by
  by_cases hz : (wantsS T [61] (typedS T x).2).2.fe = 0
  ·exact hz
  ·rw [show exprP T (wantsS T [61] (typedS T x).2).2 = (.zero, (wantsS T [61] (typedS T x).2).2) by simp [exprP, hz]] at h0
   exact absurd h0 hz
 have h2 := (Lv1.wants [61] _ h1).1
 rw [he.1.eq h0, ht.1.eq h2]
theorem ag_print {s x : St} (h : AgS T s x x) (ha : s.fa = 0) (ho : 0 ≤ s.opn) : Ag T s (printS T x) (printR T x) := by
 have he := ag_expr hT h ha ho
 exact (ag_semi hT he.st fun h0 => by rw [he.1.eq h0]).1
omit hT in
theorem isR4 (s : St) (x : Bs) (h : kw x = 4) : isR T s x = isB T s 4 x := by rw [isR, h]
theorem ag_rets {s x : St} (h : AgS T s x x) (ha : s.fa = 0) (ho : 0 ≤ s.opn) : Ag T s (retsS T x) (retsR T x) := by
 unfold retsS retsR
 rw [isR4 x [59] (by decide)]
 cases isB T x 4 [59] with
 | true => exact (ag_semi hT h fun _ => rfl).1
 | false =>
  have he := ag_expr hT h ha ho
  exact (ag_semi hT he.st fun h0 => by rw [he.1.eq h0]).1
theorem ag_sets {s x : St} (h : AgS T s x x) (e : Ex) (ha : s.fa = 0) (ho : 0 ≤ s.opn) : Ag T s (setsS T e x) (setsR T e x) ∧ Strict T s (setsS T e x) := by
 have hb : AgS T s (bif exK e then failS T 2 x else x) (bif exK e then failS T 2 x else x) := by
  cases exK e with
  | false => exact h
  | true => exact ⟨SameS.refl _, fun h0 => (failS_no (T := T) (s := x) (e := 2) (by decide) h0).elim⟩
 have he := ag_expr hT (ag_wants hT hb (z := [61]) (by decide)) ha ho
 exact ag_semi hT he.st fun h0 => by rw [show exprQ T (eqR T e x) = exprP T (eqS T e x) from he.1.eq h0]
theorem ag_plain {s x : St} (h : AgS T s x x) (ha : s.fa = 0) (ho : 0 ≤ s.opn) : Ag T s (plainS T x) (plainR T x) ∧ Strict T s (plainS T x) := by
 have he := ag_expr hT h ha ho
 unfold plainS plainR
 rw [isR4 _ [61] (by decide), isR4 _ [59] (by decide)]
 by_cases hf : (exprP T x).2.fe = 0
 ·rw [he.1.eq hf]
  have hx : AgS T s (exprP T x).2 (exprP T x).2 := ⟨SameS.refl _, he.2⟩
  cases isB T (exprP T x).2 4 [61] with
  | true => exact ag_sets hT hx _ ha ho
  | false =>
   refine ag_semi hT ?_ fun _ => rfl
   cases (isB T (exprP T x).2 4 [59] && (exprP T x).1.kind != 7) with
   | false => exact hx
   | true => exact ⟨SameS.refl _, fun h0 => (failS_no (T := T) (s := (exprP T x).2) (e := 2) (by decide) h0).elim⟩
 ·have hy := he.1.st4.ne hf
  simp only [isB_failed hf, isB_failed hy, cond_false, Bool.false_and]
  exact ag_semi hT he.st fun h0 => absurd h0 hf
end
end Go.Proofs.YtghmbpmaafnodaaGreatDoor

namespace Go.Proofs.YtghmbpmaafnodaaGreatDoor
open Go.Ev
set_option linter.unusedSectionVars false
def StmtB (T : List Tok) (k : Nat) : Prop := ∀ s : St, s.fe = 0 → s.fa = 0 → 0 ≤ s.opn → left T s ≤ k → ∀ n n', 10 * k + 10 ≤ n → 10 * k + 10 ≤ n' → ∃ p q, stmtF T n s = some p ∧ stmtR T n' s = some q ∧ Ag T s p q ∧ Strict T s p
def BlockB (T : List Tok) (k : Nat) : Prop := ∀ s x y : St, AgS T s x y → s.fa = 0 → 0 ≤ s.opn → left T x ≤ k → ∀ n n', 10 * k + 5 ≤ n → 10 * k + 5 ≤ n' → ∃ p q, blockF T n x = some p ∧ blockR T n' y = some q ∧ Ag T s p q ∧ Strict T x p
section
variable {T : List Tok} (hT : T.length ≤ 20000000)
theorem until_failed {x : St} (h : x.fe ≠ 0) (n : Nat) (l : List Stm) : untilF T (n + 1) l x = some (l, x) := by
 have hb : (x.fe == 0) = false := by simpa using h
 simp [untilF, hb]
theorem loopR_failed {x : St} (h : x.fe ≠ 0) (n : Nat) (l : List Stm) : loopR T (n + 1) l x = some (l, x) := by
 have hb : (x.fe == 0) = false := by simpa using h
 simp [loopR, hb]
include hT
theorem ag_loop {K : Nat} (ih : ∀ j, j ≤ K → StmtB T j) : ∀ (c : Nat), c ≤ K → ∀ (s x y : St), AgS T s x y → s.fa = 0 → 0 ≤ s.opn → left T x ≤ c → ∀ n n', 10 * c + 12 ≤ n → 10 * c + 12 ≤ n' → ∀ l l', (x.fe = 0 → l' = l) →
  ∃ p q, untilF T n l x = some p ∧ loopR T n' l' y = some q ∧ Ag T s p q := by
 intro c
 induction c with
 | zero =>
  intro hc s x y h ha ho hl n n' hn hn' l l' he
  obtain ⟨n, rfl⟩ : ∃ m, n = m + 2 := ⟨n - 2, by omega⟩
  obtain ⟨n', rfl⟩ : ∃ m, n' = m + 2 := ⟨n' - 2, by omega⟩
  by_cases hf : x.fe = 0
  ·obtain rfl := h.1.eq hf
   rw [he hf]
   obtain ⟨b1, b2, b3⟩ := h.2 hf
   have hb : (y.fe == 0) = true := by simp [hf]
   simp only [untilF, loopR, hb, isR4 y [125] (by decide), Bool.true_and]
   cases isB T y 4 [125] with
   | true => exact ⟨_, _, rfl, rfl, .inl ⟨hf, rfl⟩, h.2⟩
   | false =>
    simp only [Bool.not_false, cond_true]
    obtain ⟨p, q, h1, h2, h3, h4⟩ := ih 0 (by omega) y hf (b2.trans ha) (by rw [b1]; exact ho) hl (n + 1) (n' + 1) (by omega) (by omega)
    rw [h1, h2]
    simp only [Option.bind_some]
    have hp : p.2.fe ≠ 0 := fun h0 => by have := h4 h0; omega
    have hq := h3.1.st4.ne hp
    have u1 := until_failed (T := T) hp n (l ++ [p.1])
    have u2 := loopR_failed (T := T) hq n' (l ++ [q.1])
    simp only [untilF] at u1
    simp only [loopR] at u2
    rw [u1, u2]
    exact ⟨_, _, rfl, rfl, Same.of4 h3.1.st4 fun h0 => absurd h0 hp, fun h0 => absurd h0 hp⟩
  ·exact ⟨_, _, until_failed hf _ _, loopR_failed (h.1.ne hf) _ _, Same.of4 h.1 fun h0 => absurd h0 hf, fun h0 => absurd h0 hf⟩
 | succ c ihc =>
  intro hc s x y h ha ho hl n n' hn hn' l l' he
  obtain ⟨n, rfl⟩ : ∃ m, n = m + 2 := ⟨n - 2, by omega⟩
  obtain ⟨n', rfl⟩ : ∃ m, n' = m + 2 := ⟨n' - 2, by omega⟩
  by_cases hf : x.fe = 0
  ·obtain rfl := h.1.eq hf
   rw [he hf]
   obtain ⟨b1, b2, b3⟩ := h.2 hf
   have hb : (y.fe == 0) = true := by simp [hf]
   rw [untilF, loopR]
   simp only [hb, isR4 y [125] (by decide), Bool.true_and]
   cases isB T y 4 [125] with
   | true => exact ⟨_, _, rfl, rfl, .inl ⟨hf, rfl⟩, h.2⟩
   | false =>
    simp only [Bool.not_false, cond_true]
    obtain ⟨p, q, h1, h2, h3, h4⟩ := ih (c + 1) hc y hf (b2.trans ha) (by rw [b1]; exact ho) hl (n + 1) (n' + 1) (by omega) (by omega)
    rw [h1, h2]
    simp only [Option.bind_some]
    by_cases hp : p.2.fe = 0
    ·have hq := h3.1.eq hp
     have hlt := h4 hp
     obtain ⟨d1, d2, d3⟩ := h3.2 hp
     rw [hq]
     exact ihc (by omega) s p.2 p.2 ⟨SameS.refl _, fun _ => ⟨d1.trans b1, d2.trans b2, Nat.le_trans d3 b3⟩⟩ ha ho (by omega) (n + 1) (n' + 1) (by omega) (by omega) _ _ fun _ => rfl
    ·have hq := h3.1.st4.ne hp
     exact ⟨_, _, until_failed hp _ _, loopR_failed hq _ _, Same.of4 h3.1.st4 fun h0 => absurd h0 hp, fun h0 => absurd h0 hp⟩
  ·exact ⟨_, _, until_failed hf _ _, loopR_failed (h.1.ne hf) _ _, Same.of4 h.1 fun h0 => absurd h0 hf, fun h0 => absurd h0 hf⟩
theorem ag_noblock {s x y : St} {e : Int} (he : e ≠ 0) (n' : Nat) (hF : SameS (failS T e x) (opensR T [123] y)) (hn : 2 ≤ n') :
  ∃ p q, some (([] : List Stm), failS T e x) = some p ∧ blockR T n' y = some q ∧ Ag T s p q ∧ Strict T x p := by
 obtain ⟨n', rfl⟩ : ∃ m, n' = m + 2 := ⟨n' - 2, by omega⟩
 have h1 : (failS T e x).fe ≠ 0 := fun h0 => failS_no he h0
 have h2 := hF.ne h1
 rw [blockR, loopR_failed h2, Option.bind_some]
 have h3 : closesR T [125] (opensR T [123] y) = outS (opensR T [123] y) := by
  simp only [closesR, takeR, isR_failed h2, cond_false, failS_failed h2]
 refine ⟨_, _, rfl, rfl, ⟨?_, fun h0 => absurd h0 h1⟩, fun h0 => absurd h0 h1⟩
 simp only [h3]
 rcases hF with hF | ⟨g1, g2, g3⟩
 ·exact absurd hF.1 h1
 ·exact .inr ⟨g1, g2, g3⟩
theorem ag_block {k : Nat} (ih : ∀ j, j < k → StmtB T j) : BlockB T k := by
 intro s x y h ha ho hl n n' hn hn'
 obtain ⟨n, rfl⟩ : ∃ m, n = m + 1 := ⟨n - 1, by omega⟩
 rw [blockF]
 by_cases hf : x.fe = 0
 ·obtain rfl := h.1.eq hf
  obtain ⟨b1, b2, b3⟩ := h.2 hf
  cases hi : isB T y 4 [123] with
  | false =>
   refine ag_noblock hT (by decide) n' ?_ (by omega)
   have : opensR T [123] y = inS (failS T 2 y) := by simp [opensR, takeR, isR4 y [123] (by decide), hi]
   rw [this]
   exact .inr ⟨fun h0 => failS_no (by decide) h0, rfl, rfl⟩
  | true =>
   simp only [cond_true]
   by_cases h5 : 50 ≤ y.opn
   ·rw [if_pos h5]
    refine ag_noblock hT (by decide) n' ?_ (by omega)
    have : opensR T [123] y = failS T 4 y := by simp [opensR, isR4 y [123] (by decide), hi, h5]
    rw [this]
    exact .refl _
   ·rw [if_neg h5]
    have hop : opensR T [123] y = { y with at_ := w64 (y.at_ + 1), opn := w64 (y.opn + 1) } := by
     simp only [opensR, takeR, isR4 y [123] (by decide), hi, h5, decide_false, Bool.and_false, cond_false, cond_true]
     rfl
    have hk : 1 ≤ k := by
     have := left_is (T := T) (by omega) (s := y) (by decide) hi
     omega
    have hgo := left_is (T := T) (by omega) (s := y) (by decide) hi
    obtain ⟨n', rfl⟩ : ∃ m, n' = m + 1 := ⟨n' - 1, by omega⟩
    rw [blockR, hop]
    obtain ⟨c1, c2⟩ := w64_io (o := y.opn) (by rw [b1]; exact ho) (by omega)
    have hl1 : left T { y with at_ := w64 (y.at_ + 1), opn := w64 (y.opn + 1) } + 1 ≤ left T y := hgo
    obtain ⟨p, q, h1, h2, h3⟩ := ag_loop hT (K := k - 1) (fun j hj => ih j (by omega)) (k - 1) (Nat.le_refl _) { y with at_ := w64 (y.at_ + 1), opn := w64 (y.opn + 1) } _ _ ⟨SameS.refl _, fun _ => ⟨rfl, rfl, Nat.le_refl _⟩⟩ (b2.trans ha) (by show (0 : Int) ≤ w64 (y.opn + 1); rw [c1, b1]; omega) (by omega) n n' (by omega) (by omega) [] [] fun _ => rfl
    rw [h1, h2]
    simp only [Option.bind_some]
    have hcl := closes_same (T := T) h3.1.st4 (x := [125]) (by decide)
    have hcl' : SameS (wantsS T [125] (outS p.2)).2 (closesR T [125] q.2) := hcl
    refine ⟨_, _, rfl, rfl, ⟨Same.of4 hcl' fun h0 => ?_, fun h0 => ?_⟩, fun h0 => ?_⟩
    ·have := (Lv1.wants [125] _ h0).1
     rw [h3.1.eq this]
    ·obtain ⟨d1, d2, d3⟩ := Lv1.wants [125] _ h0
     obtain ⟨e1, e2, e3⟩ := h3.2 d1
     refine ⟨?_, d3.trans (e2.trans b2), ?_⟩
     ·rw [d2]
      show w64 (p.2.opn - 1) = s.opn
      rw [e1]
      show w64 (w64 (y.opn + 1) - 1) = s.opn
      rw [c1, c2, b1]
     ·have hw := left_wants (T := T) (by omega) (outS p.2) [125]
      rw [left_out] at hw
      have hs : left T (wantsS T [125] (outS p.2)).2 ≤ left T s := by omega
      exact hs
    ·obtain ⟨d1, d2, d3⟩ := Lv1.wants [125] _ h0
     obtain ⟨e1, e2, e3⟩ := h3.2 d1
     have hw := left_wants (T := T) (by omega) (outS p.2) [125]
     rw [left_out] at hw
     have hs : left T (wantsS T [125] (outS p.2)).2 + 1 ≤ left T y := by omega
     exact hs
 ·rw [isB_failed hf, cond_false]
  refine ag_noblock hT (by decide) n' ?_ (by omega)
  have hy := h.1.ne hf
  have : opensR T [123] y = inS y := by simp [opensR, takeR, isR_failed hy, failS_failed hy]
  rw [this, failS_failed hf]
  rcases h.1 with h1 | ⟨g1, g2, g3⟩
  ·exact absurd h1.1 hf
  ·exact .inr ⟨g1, g2, g3⟩
omit hT in
theorem kindW {s : St} (hf : s.fe = 0) {x : Bs} (hx : kw x = 3) : isR T s x = ((tokAt T s.at_).kind == 3 && (tokAt T s.at_).text == x) := by
 simp [isR, hx, isB, hf]
theorem ag_at {s : St} {p q : Stm × St} (pos : Int) (h : Ag T s p q) : Ag T s (p.1.at pos, p.2) (q.1.at pos, q.2) := ⟨Same.of4 h.1.st4 fun h0 => by rw [h.1.eq h0], h.2⟩
theorem ag_stmt {k : Nat} (ihB : ∀ j, j < k → BlockB T j) : StmtB T k := by
 intro s hf ha ho hl n n' hn hn'
 obtain ⟨n, rfl⟩ : ∃ m, n = m + 2 := ⟨n - 2, by omega⟩
 obtain ⟨n', rfl⟩ : ∃ m, n' = m + 2 := ⟨n' - 2, by omega⟩
 have self : AgS T s s s := ⟨SameS.refl _, fun _ => ⟨rfl, rfl, Nat.le_refl _⟩⟩
 rw [stmtF, stmtR]
 simp only [kindW hf (x := [118, 97, 114]) (by decide), kindW hf (x := [108, 101, 116]) (by decide), kindW hf (x := [105, 102]) (by decide), kindW hf (x := [119, 104, 105, 108, 101]) (by decide), kindW hf (x := [114, 101, 116, 117, 114, 110]) (by decide), kindW hf (x := [112, 114, 105, 110, 116]) (by decide)]
 have plain : ∃ p q, (some (plainS T s)).bind (fun p => some (p.1.at (tokAt T s.at_).pos, p.2)) = some p ∧ (some (plainR T s)).bind (fun p => some (p.1.at (tokAt T s.at_).pos, p.2)) = some q ∧ Ag T s p q ∧ Strict T s p := by
  obtain ⟨h1, h2⟩ := ag_plain hT self ha ho
  exact ⟨_, _, rfl, rfl, ag_at hT _ h1, h2⟩
 cases hk : (tokAt T s.at_).kind == 3 with
 | false =>
  simp only [cond_false, Bool.false_and, Bool.or_self]
  exact plain
 | true =>
  simp only [cond_true, Bool.true_and]
  have hk3 : (tokAt T s.at_).kind = 3 := by simpa using hk
  have hg := left_go (T := T) (by omega) hf (by rw [hk3]; decide)
  have gs : AgS T (goS s) (goS s) (goS s) := ⟨SameS.refl _, fun _ => ⟨rfl, rfl, Nat.le_refl _⟩⟩
  have up : ∀ {p q : Stm × St}, Ag T (goS s) p q → ∃ p' q', (some p).bind (fun p => some (p.1.at (tokAt T s.at_).pos, p.2)) = some p' ∧ (some q).bind (fun p => some (p.1.at (tokAt T s.at_).pos, p.2)) = some q' ∧ Ag T s p' q' ∧ Strict T s p' := fun {p q} h => by
   refine ⟨_, _, rfl, rfl, ag_at hT _ ⟨h.1, fun h0 => ?_⟩, fun h0 => ?_⟩
   ·obtain ⟨e1, e2, e3⟩ := h.2 h0
    exact ⟨e1, e2, by omega⟩
   ·obtain ⟨e1, e2, e3⟩ := h.2 h0
    show left T p.2 + 1 ≤ left T s
    omega
  have gok := gs.2 hf
  cases t1 : (tokAt T s.at_).text == [118, 97, 114] with
  | true =>
   have t2 : ((tokAt T s.at_).text == [108, 101, 116]) = false := by
    have : (tokAt T s.at_).text = [118, 97, 114] := by simpa using t1
    rw [this]; rfl
   simp only [cond_true, Bool.true_or, t2, cond_false]
   exact up (ag_decl hT hf gok ha)
  | false =>
   simp only [cond_false, Bool.false_or]
   cases t2 : (tokAt T s.at_).text == [108, 101, 116] with
   | true =>
    simp only [cond_true]
    exact up (ag_lets hT hf gok ha ho)
   | false =>
    simp only [cond_false]
    cases t3 : (tokAt T s.at_).text == [105, 102] with
    | true =>
     simp only [cond_true]
     have he := ag_expr hT gs ha ho
     rw [chooseF]
     have hle : left T (exprP T (goS s)).2 ≤ k - 1 := by
      by_cases h0 : (exprP T (goS s)).2.fe = 0
      ·have := (he.2 h0).2.2; omega
      ·rw [left_failed h0]; omega
     obtain ⟨p, q, h1, h2, h3, h4⟩ := ihB (k - 1) (by omega) (goS s) _ _ he.st ha ho hle n (n' + 1) (by omega) (by omega)
     rw [h1, h2]
     simp only [Option.bind_some]
     by_cases hp : p.2.fe = 0
     ·have hq := h3.1.eq hp
      have hst := h4 hp
      have hee : (exprP T (goS s)).2.fe = 0 := by
       by_cases h0 : (exprP T (goS s)).2.fe = 0
       ·exact h0
       ·rw [left_failed h0] at hst; omega
      rw [hq, he.1.eq hee, kindW hp (x := [101, 108, 115, 101]) (by decide)]
      have hbb : isB T p.2 3 [101, 108, 115, 101] = ((tokAt T p.2.at_).kind == 3 && (tokAt T p.2.at_).text == [101, 108, 115, 101]) := by simp [isB, hp]
      rw [← hbb]
      cases hel : isB T p.2 3 [101, 108, 115, 101] with
      | false =>
       simp only [cond_false]
       exact up ⟨.inl ⟨hp, rfl⟩, h3.2⟩
      | true =>
       simp only [cond_true]
       have hg2 := left_is (T := T) (by omega) (s := p.2) (by decide) hel
       obtain ⟨f1, f2, f3⟩ := h3.2 hp
       obtain ⟨p2, q2, g1, g2, g3, g4⟩ := ihB (k - 1) (by omega) (goS s) (goS p.2) (goS p.2) ⟨SameS.refl _, fun _ => ⟨f1, f2, by omega⟩⟩ ha ho (by omega) n (n' + 1) (by omega) (by omega)
       rw [g1, g2]
       simp only [Option.bind_some]
       refine up (p := (Stm.mk { kind := 5 } [(exprP T (goS s)).1] p.1 p2.1, p2.2)) (q := (Stm.mk { kind := 5 } [(exprP T (goS s)).1] p.1 q2.1, q2.2)) ?_
       exact ⟨Same.of4 g3.1.st4 fun h0 => by simp only [g3.1.eq h0], g3.2⟩
     ·have hq := h3.1.st4.ne hp
      rw [isB_failed hp, isR_failed hq]
      simp only [cond_false]
      exact up ⟨Same.of4 h3.1.st4 fun h0 => absurd h0 hp, fun h0 => absurd h0 hp⟩
    | false =>
     simp only [cond_false]
     cases t4 : (tokAt T s.at_).text == [119, 104, 105, 108, 101] with
     | true =>
      simp only [cond_true]
      have he := ag_expr hT gs ha ho
      rw [repeatF]
      have hle : left T (exprP T (goS s)).2 ≤ k - 1 := by
       by_cases h0 : (exprP T (goS s)).2.fe = 0
       ·have := (he.2 h0).2.2; omega
       ·rw [left_failed h0]; omega
      obtain ⟨p, q, h1, h2, h3, h4⟩ := ihB (k - 1) (by omega) (goS s) _ _ he.st ha ho hle n (n' + 1) (by omega) (by omega)
      rw [h1, h2]
      simp only [Option.bind_some]
      refine up (p := (Stm.mk { kind := 6 } [(exprP T (goS s)).1] p.1 [], p.2)) (q := (Stm.mk { kind := 6 } [(exprQ T (goS s)).1] q.1 [], q.2)) ?_
      refine ⟨Same.of4 h3.1.st4 fun h0 => ?_, h3.2⟩
      have hst := h4 h0
      have hee : (exprP T (goS s)).2.fe = 0 := by
       by_cases h9 : (exprP T (goS s)).2.fe = 0
       ·exact h9
       ·rw [left_failed h9] at hst; omega
      simp only [h3.1.eq h0, he.1.eq hee]
     | false =>
      simp only [cond_false]
      cases t5 : (tokAt T s.at_).text == [114, 101, 116, 117, 114, 110] with
      | true =>
       simp only [cond_true]
       exact up (ag_rets hT gs ha ho)
      | false =>
       simp only [cond_false]
       cases t6 : (tokAt T s.at_).text == [112, 114, 105, 110, 116] with
       | true =>
        simp only [cond_true]
        exact up (ag_print hT gs ha ho)
       | false =>
        simp only [cond_false]
        exact plain
theorem stmtB : ∀ k, StmtB T k := by
 intro k
 induction k using Nat.strongRecOn with
 | _ k ih => exact ag_stmt hT fun j hj => ag_block hT fun i hi => ih i (by omega)
theorem blockB (k : Nat) : BlockB T k := ag_block hT fun j _ => stmtB hT j
theorem both_block (at_ opn : Int) : ∃ p q, blockF T 800000000 (startS at_ opn) = some p ∧ blockR T 800000000 (startS at_ opn) = some q ∧ parseB q.1 q.2 = parseB p.1 p.2 ∧ Ag T (startS at_ opn) p q := by
 have ho : (0 : Int) ≤ (startS at_ opn).opn := by
  show (0 : Int) ≤ if opn < 0 then 0 else opn
  split <;> omega
 obtain ⟨p, q, h1, h2, h3, -⟩ := blockB hT T.length (startS at_ opn) _ _ ⟨SameS.refl _, fun _ => ⟨rfl, rfl, Nat.le_refl _⟩⟩ rfl ho (left_le _ _) 800000000 800000000 (by omega) (by omega)
 refine ⟨p, q, h1, h2, ?_, h3⟩
 rcases h3.1 with ⟨h, rfl⟩ | ⟨h, ha, hb⟩
 ·rfl
 ·have h' : ¬ q.2.fe = 0 := by rw [ha]; exact h
  simp only [parseB, if_neg h, if_neg h', ha, hb]
end
end Go.Proofs.YtghmbpmaafnodaaGreatDoor

